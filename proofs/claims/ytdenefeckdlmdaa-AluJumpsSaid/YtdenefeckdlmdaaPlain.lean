/- The plain arithmetic of what instructions make of two words, with no program in sight. No conditions. -/
import Derived.IntWalk
import Derived.Laws.BitsAllLaws
namespace Go.Proofs.Ytdenefeckdlmdaa
open Go.RowKit

/-- what an instruction of one cycle makes of two words -/
def ad (op x y : Int) : Int :=
  if op = 28 ∨ op = 19 then (x + y) % 4294967296
  else if op = 29 then (x - y) % 4294967296
  else if op = 37 ∨ op = 24 then bits .and .u32 x y
  else if op = 36 ∨ op = 23 then bits .or .u32 x y
  else if op = 33 ∨ op = 22 then bits .xor .u32 x y
  else if op = 30 ∨ op = 25 then x * 2 ^ (y % 32).toNat % 4294967296
  else if op = 34 ∨ op = 26 then x / 2 ^ (y % 32).toNat
  else if op = 35 ∨ op = 27 then wrap32 x / 2 ^ (y % 32).toNat % 4294967296
  else if op = 31 ∨ op = 20 then (if wrap32 x < wrap32 y then 1 else 0)
  else if op = 32 ∨ op = 21 then (if x < y then 1 else 0)
  else if op = 1 then y else 0
theorem ad1 (x y : Int) : ad 1 x y = y := rfl
theorem ad19 (x y : Int) : ad 19 x y = (x + y) % 4294967296 := rfl
theorem ad20 (x y : Int) : ad 20 x y = (if wrap32 x < wrap32 y then 1 else 0) := rfl
theorem ad21 (x y : Int) : ad 21 x y = (if x < y then 1 else 0) := rfl
theorem ad22 (x y : Int) : ad 22 x y = bits .xor .u32 x y := rfl
theorem ad23 (x y : Int) : ad 23 x y = bits .or .u32 x y := rfl
theorem ad24 (x y : Int) : ad 24 x y = bits .and .u32 x y := rfl
theorem ad25 (x y : Int) : ad 25 x y = x * 2 ^ (y % 32).toNat % 4294967296 := rfl
theorem ad26 (x y : Int) : ad 26 x y = x / 2 ^ (y % 32).toNat := rfl
theorem ad27 (x y : Int) : ad 27 x y = wrap32 x / 2 ^ (y % 32).toNat % 4294967296 := rfl
theorem ad28 (x y : Int) : ad 28 x y = (x + y) % 4294967296 := rfl
theorem ad29 (x y : Int) : ad 29 x y = (x - y) % 4294967296 := rfl
theorem ad30 (x y : Int) : ad 30 x y = x * 2 ^ (y % 32).toNat % 4294967296 := rfl
theorem ad31 (x y : Int) : ad 31 x y = (if wrap32 x < wrap32 y then 1 else 0) := rfl
theorem ad32 (x y : Int) : ad 32 x y = (if x < y then 1 else 0) := rfl
theorem ad33 (x y : Int) : ad 33 x y = bits .xor .u32 x y := rfl
theorem ad34 (x y : Int) : ad 34 x y = x / 2 ^ (y % 32).toNat := rfl
theorem ad35 (x y : Int) : ad 35 x y = wrap32 x / 2 ^ (y % 32).toNat % 4294967296 := rfl
theorem ad36 (x y : Int) : ad 36 x y = bits .or .u32 x y := rfl
theorem ad37 (x y : Int) : ad 37 x y = bits .and .u32 x y := rfl
theorem ad_else (op x y : Int) (h : op ≠ 1 ∧ op ≠ 19 ∧ op ≠ 20 ∧ op ≠ 21 ∧ op ≠ 22 ∧ op ≠ 23 ∧ op ≠ 24 ∧ op ≠ 25 ∧ op ≠ 26 ∧ op ≠ 27 ∧ op ≠ 28 ∧ op ≠ 29 ∧ op ≠ 30 ∧ op ≠ 31 ∧ op ≠ 32 ∧ op ≠ 33 ∧ op ≠ 34 ∧ op ≠ 35 ∧ op ≠ 36 ∧ op ≠ 37) : ad op x y = 0 := by
  unfold ad
  repeat (first | rw [if_neg (by omega)])
theorem low_nat (n y : Nat) : y &&& (2 ^ n - 1) = y % 2 ^ n := Nat.and_two_pow_sub_one_eq_mod y n
theorem and31 (y : Int) (h0 : 0 ≤ y) (h1 : y ≤ 4294967295) : bits .and .u32 y 31 = y % 32 := by
  rw [u32_and y 31 h0 (by omega) (by omega) (by omega), show (31 : Int).toNat = 2 ^ 5 - 1 from rfl, low_nat]; omega
theorem wrap32_bd (x : Int) : -2147483648 ≤ wrap32 x ∧ wrap32 x ≤ 2147483647 := by unfold wrap32; omega
theorem wrap32_is (x : Int) (h0 : 0 ≤ x) (h1 : x ≤ 4294967295) : wrap32 x = if x < 2147483648 then x else x - 4294967296 := by unfold wrap32; split <;> omega
theorem and_bd (x y : Int) (h0 : 0 ≤ x) (h1 : x ≤ 4294967295) (g0 : 0 ≤ y) (g1 : y ≤ 4294967295) : 0 ≤ bits .and .u32 x y ∧ bits .and .u32 x y ≤ 4294967295 := by
  rw [u32_and x y h0 (by omega) g0 (by omega)]
  have : x.toNat &&& y.toNat < 2 ^ 32 := Nat.and_lt_two_pow _ (by omega)
  omega
theorem or_bd (x y : Int) (h0 : 0 ≤ x) (h1 : x ≤ 4294967295) (g0 : 0 ≤ y) (g1 : y ≤ 4294967295) : 0 ≤ bits .or .u32 x y ∧ bits .or .u32 x y ≤ 4294967295 := by
  rw [u32_or x y h0 (by omega) g0 (by omega)]
  have : x.toNat ||| y.toNat < 2 ^ 32 := Nat.or_lt_two_pow (by omega) (by omega)
  omega
theorem xor_bd (x y : Int) (h0 : 0 ≤ x) (h1 : x ≤ 4294967295) (g0 : 0 ≤ y) (g1 : y ≤ 4294967295) : 0 ≤ bits .xor .u32 x y ∧ bits .xor .u32 x y ≤ 4294967295 := by
  rw [u32_xor x y h0 (by omega) g0 (by omega)]
  have : x.toNat ^^^ y.toNat < 2 ^ 32 := Nat.xor_lt_two_pow (by omega) (by omega)
  omega
theorem shr_bd (x : Int) (n : Nat) (h0 : 0 ≤ x) (h1 : x ≤ 4294967295) : 0 ≤ x / 2 ^ n ∧ x / 2 ^ n ≤ 4294967295 := by
  have hp : (0 : Int) < 2 ^ n := Int.pow_pos (by decide)
  have a := Int.ediv_nonneg h0 (b := 2 ^ n) (by omega)
  have b := Int.ediv_le_self (a := x) (2 ^ n) h0
  omega
/-- a word -/
def Wd (r : Int) : Prop := 0 ≤ r ∧ r ≤ 4294967295
theorem wd_ite {c : Prop} [Decidable c] {a b : Int} (ha : Wd a) (hb : Wd b) : Wd (if c then a else b) := by split <;> assumption
theorem wd_mod (a : Int) : Wd (a % 4294967296) := by unfold Wd; omega
theorem ad_wd (op x y : Int) (h0 : 0 ≤ x) (h1 : x ≤ 4294967295) (g0 : 0 ≤ y) (g1 : y ≤ 4294967295) : Wd (ad op x y) := by
  have z : Wd 0 := ⟨by decide, by decide⟩
  have o : Wd 1 := ⟨by decide, by decide⟩
  unfold ad
  refine wd_ite (wd_mod _) (wd_ite (wd_mod _) (wd_ite (and_bd x y h0 h1 g0 g1) (wd_ite (or_bd x y h0 h1 g0 g1) (wd_ite (xor_bd x y h0 h1 g0 g1) (wd_ite (wd_mod _) (wd_ite (shr_bd x _ h0 h1) (wd_ite (wd_mod _) (wd_ite (wd_ite o z) (wd_ite (wd_ite o z) (wd_ite ⟨g0, g1⟩ z))))))))))
theorem ad_bd (op x y : Int) (h0 : 0 ≤ x) (h1 : x ≤ 4294967295) (g0 : 0 ≤ y) (g1 : y ≤ 4294967295) : 0 ≤ ad op x y ∧ ad op x y ≤ 4294967295 := ad_wd op x y h0 h1 g0 g1
end Go.Proofs.Ytdenefeckdlmdaa
