/- The plain arithmetic of divisions of words: signed readings, quotients and rests, with no program in sight. No conditions. -/
import Derived.IntWalk
import Derived.Laws.BitsAllLaws
namespace Go.Proofs.Ytajedochalaadaa
open Go.RowKit

/-- a word as a signed number -/
def sg (x : Int) : Int := if x < 2147483648 then x else x - 4294967296
/-- what a division makes of two numbers: 42 quotient, 43 of numbers, 44 rest, 45 of numbers -/
def dv (op x y : Int) : Int :=
  if op = 42 then (if y = 0 then 4294967295 else (sg x).tdiv (sg y) % 4294967296)
  else if op = 43 then (if y = 0 then 4294967295 else x / y)
  else if op = 44 then (if y = 0 then x else (sg x).tmod (sg y) % 4294967296)
  else if op = 45 then (if y = 0 then x else x % y)
  else 0
theorem wrap32_neg {x : Int} (h : 2147483648 ≤ x) (h1 : x ≤ 4294967295) : wrap32 x < 0 := by unfold wrap32; omega
theorem wrap32_pos {x : Int} (h : x < 2147483648) (h1 : 0 ≤ x) : 0 ≤ wrap32 x := by unfold wrap32; omega
theorem xor_hi (a b : Nat) (ha : a < 4294967296) (hb : b < 4294967296) : (a ^^^ b < 2147483648) ↔ (a < 2147483648 ↔ b < 2147483648) := by
  have h1 : ∀ n : Nat, n < 4294967296 → (n < 2147483648 ↔ n.testBit 31 = false) := by
    intro n hn
    rw [Nat.testBit_eq_decide_div_mod_eq]
    simp only [decide_eq_false_iff_not]
    omega
  have hx : a ^^^ b < 4294967296 := Nat.xor_lt_two_pow (n := 32) (by omega) (by omega)
  rw [h1 _ hx, h1 _ ha, h1 _ hb, Nat.testBit_xor]
  cases a.testBit 31 <;> cases b.testBit 31 <;> simp
theorem xor_bd (a b : Int) (h1 : 0 ≤ a) (h2 : a < 4294967296) (h3 : 0 ≤ b) (h4 : b < 4294967296) : 0 ≤ bits .xor .u32 a b ∧ bits .xor .u32 a b ≤ 4294967295 := by
  rw [u32_xor a b h1 h2 h3 h4]
  have : a.toNat ^^^ b.toNat < 4294967296 := Nat.xor_lt_two_pow (n := 32) (by omega) (by omega)
  omega
theorem xor_same (a b : Int) (h1 : 0 ≤ a) (h2 : a < 4294967296) (h3 : 0 ≤ b) (h4 : b < 4294967296) (h : a < 2147483648 ↔ b < 2147483648) : 0 ≤ wrap32 (bits .xor .u32 a b) := by
  have hb := xor_bd a b h1 h2 h3 h4
  have hx := (xor_hi a.toNat b.toNat (by omega) (by omega)).2 (by omega)
  refine wrap32_pos ?_ hb.1
  rw [u32_xor a b h1 h2 h3 h4]; omega
theorem xor_other (a b : Int) (h1 : 0 ≤ a) (h2 : a < 4294967296) (h3 : 0 ≤ b) (h4 : b < 4294967296) (h : a < 2147483648 ↔ ¬ b < 2147483648) : wrap32 (bits .xor .u32 a b) < 0 := by
  have hb := xor_bd a b h1 h2 h3 h4
  have hx : ¬ a.toNat ^^^ b.toNat < 2147483648 := fun hh => by have := (xor_hi a.toNat b.toNat (by omega) (by omega)).1 hh; omega
  refine wrap32_neg ?_ hb.2
  rw [u32_xor a b h1 h2 h3 h4]; omega
theorem dv_bd (op x y : Int) (h0 : 0 ≤ x) (h1 : x ≤ 4294967295) (g0 : 0 ≤ y) (g1 : y ≤ 4294967295) : 0 ≤ dv op x y ∧ dv op x y ≤ 4294967295 := by
  unfold dv
  have hq : 0 ≤ x / y := Int.ediv_nonneg h0 g0
  have hq2 : x / y ≤ x := Int.ediv_le_self _ h0
  repeat' split
  all_goals first
    | omega
    | (have := Int.emod_nonneg x (b := y) (by omega); have := Int.emod_lt_of_pos x (b := y) (by omega); omega)

theorem sg_p {x : Int} (h : x < 2147483648) : sg x = x := by unfold sg; rw [if_pos h]
theorem sg_n {x : Int} (h : 2147483648 ≤ x) : sg x = -(4294967296 - x) := by unfold sg; rw [if_neg (by omega)]; omega
theorem neg_u {x : Int} (h : 1 ≤ x) (h1 : x ≤ 4294967295) : -x % 4294967296 = 4294967296 - x := by omega
theorem dv42 (x y : Int) (g0 : 1 ≤ y) : dv 42 x y = (sg x).tdiv (sg y) % 4294967296 := by
  unfold dv; rw [if_pos rfl, if_neg (by omega)]
theorem dv44 (x y : Int) (g0 : 1 ≤ y) : dv 44 x y = (sg x).tmod (sg y) % 4294967296 := by
  unfold dv; rw [if_neg (by decide), if_neg (by decide), if_pos rfl, if_neg (by omega)]
theorem dv43 (x y : Int) (g0 : 1 ≤ y) : dv 43 x y = x / y := by
  unfold dv; rw [if_neg (by decide), if_pos rfl, if_neg (by omega)]
theorem dv45 (x y : Int) (g0 : 1 ≤ y) : dv 45 x y = x % y := by
  unfold dv; rw [if_neg (by decide), if_neg (by decide), if_neg (by decide), if_pos rfl, if_neg (by omega)]
theorem dv42_pp (x y : Int) (h0 : 0 ≤ x) (cx : x < 2147483648) (g0 : 1 ≤ y) (cy : y < 2147483648) : x / y = dv 42 x y := by
  rw [dv42 x y g0, sg_p cx, sg_p cy, Int.tdiv_eq_ediv_of_nonneg h0]
  have := Int.ediv_nonneg h0 (b := y) (by omega); have := Int.ediv_le_self (a := x) y h0
  omega
theorem dv42_pn (x y : Int) (h0 : 0 ≤ x) (cx : x < 2147483648) (cy : 2147483648 ≤ y) (g1 : y ≤ 4294967295) : -(x / (-y % 4294967296)) % 4294967296 = dv 42 x y := by
  rw [dv42 x y (by omega), sg_p cx, sg_n cy, neg_u (by omega) g1, Int.tdiv_neg, Int.tdiv_eq_ediv_of_nonneg h0]
theorem dv42_np (x y : Int) (cx : 2147483648 ≤ x) (h1 : x ≤ 4294967295) (g0 : 1 ≤ y) (cy : y < 2147483648) : -(-x % 4294967296 / y) % 4294967296 = dv 42 x y := by
  rw [dv42 x y g0, sg_n cx, sg_p cy, neg_u (by omega) h1, Int.neg_tdiv, Int.tdiv_eq_ediv_of_nonneg (by omega)]
theorem dv42_nn (x y : Int) (cx : 2147483648 ≤ x) (h1 : x ≤ 4294967295) (cy : 2147483648 ≤ y) (g1 : y ≤ 4294967295) : -x % 4294967296 / (-y % 4294967296) = dv 42 x y := by
  rw [dv42 x y (by omega), sg_n cx, sg_n cy, neg_u (by omega) h1, neg_u (by omega) g1, Int.neg_tdiv, Int.tdiv_neg, Int.neg_neg, Int.tdiv_eq_ediv_of_nonneg (by omega)]
  have h0 : (0 : Int) ≤ 4294967296 - x := by omega
  have := Int.ediv_nonneg h0 (b := 4294967296 - y) (by omega); have := Int.ediv_le_self (a := 4294967296 - x) (4294967296 - y) h0
  omega
theorem dv44_pp (x y : Int) (h0 : 0 ≤ x) (cx : x < 2147483648) (g0 : 1 ≤ y) (cy : y < 2147483648) : x % y = dv 44 x y := by
  rw [dv44 x y g0, sg_p cx, sg_p cy, Int.tmod_eq_emod_of_nonneg h0]
  have := Int.emod_nonneg x (b := y) (by omega); have := Int.emod_lt_of_pos x (b := y) (by omega)
  omega
theorem dv44_pn (x y : Int) (h0 : 0 ≤ x) (cx : x < 2147483648) (cy : 2147483648 ≤ y) (g1 : y ≤ 4294967295) : x % (-y % 4294967296) = dv 44 x y := by
  rw [dv44 x y (by omega), sg_p cx, sg_n cy, neg_u (by omega) g1, Int.tmod_neg, Int.tmod_eq_emod_of_nonneg h0]
  have := Int.emod_nonneg x (b := 4294967296 - y) (by omega); have := Int.emod_lt_of_pos x (b := 4294967296 - y) (by omega)
  omega
theorem dv44_np (x y : Int) (cx : 2147483648 ≤ x) (h1 : x ≤ 4294967295) (g0 : 1 ≤ y) (cy : y < 2147483648) : -(-x % 4294967296 % y) % 4294967296 = dv 44 x y := by
  rw [dv44 x y g0, sg_n cx, sg_p cy, neg_u (by omega) h1, Int.neg_tmod, Int.tmod_eq_emod_of_nonneg (by omega)]
/-- the size of a word as a signed number -/
def szz (x : Int) : Int := if x < 2147483648 then x else 4294967296 - x
theorem szz_p {x : Int} (h : x < 2147483648) : szz x = x := by unfold szz; rw [if_pos h]
theorem szz_n {x : Int} (h : 2147483648 ≤ x) : szz x = 4294967296 - x := by unfold szz; rw [if_neg (by omega)]
theorem sg_bd {x : Int} (h0 : 0 ≤ x) (h1 : x ≤ 4294967295) : -2147483648 ≤ sg x ∧ sg x ≤ 2147483647 ∧ sg x % 4294967296 = x := by unfold sg; split <;> omega
theorem sg_natAbs {x : Int} (h0 : 0 ≤ x) (h1 : x ≤ 4294967295) : ((sg x).natAbs : Int) = szz x := by
  rcases Int.lt_or_le x 2147483648 with c | c
  · rw [sg_p c, szz_p c]; omega
  · rw [sg_n c, szz_n c]; omega
theorem sg_of {n : Int} (h0 : -2147483648 ≤ n) (h1 : n ≤ 2147483647) : sg (n % 4294967296) = n := by unfold sg; split <;> omega
theorem sg_pos {y : Int} (g0 : 1 ≤ y) (g1 : y ≤ 4294967295) : sg y ≠ 0 := by unfold sg; split <;> omega
theorem back43 (x y : Int) (h0 : 0 ≤ x) (h1 : x ≤ 4294967295) (g0 : 1 ≤ y) : (dv 43 x y * y + dv 45 x y) % 4294967296 = x := by
  rw [dv43 x y g0, dv45 x y g0, Int.mul_comm, Int.mul_ediv_add_emod]; omega
theorem back45 (x y : Int) (g0 : 1 ≤ y) : dv 45 x y < y := by
  rw [dv45 x y g0]; exact Int.emod_lt_of_pos x (by omega)
theorem modring (x T S R y t r k : Int) (hy : y = S + 4294967296 * k) (e : S * T + R = x) : ((T - 4294967296 * t) * y + (R - 4294967296 * r)) % 4294967296 = x % 4294967296 := by
  have : (T - 4294967296 * t) * y + (R - 4294967296 * r) = x + 4294967296 * (T * k - t * S - t * (4294967296 * k) - r) := by subst hy e; grind
  rw [this, Int.add_mul_emod_self_left]
theorem back42 (x y : Int) (h0 : 0 ≤ x) (h1 : x ≤ 4294967295) (g0 : 1 ≤ y) (_g1 : y ≤ 4294967295) : (dv 42 x y * y + dv 44 x y) % 4294967296 = x := by
  rw [dv42 x y g0, dv44 x y g0]
  have e : (sg y * (sg x).tdiv (sg y) + (sg x).tmod (sg y)) = sg x := Int.mul_tdiv_add_tmod _ _
  have ex := (sg_bd h0 h1).2.2
  obtain ⟨k, hk⟩ : ∃ k, y = sg y + 4294967296 * k := by
    unfold sg
    split
    · exact ⟨0, by omega⟩
    · exact ⟨1, by omega⟩
  rw [Int.emod_def ((sg x).tdiv (sg y)), Int.emod_def ((sg x).tmod (sg y)), modring _ _ _ _ _ _ _ k hk e, ex]
theorem tmod_bd (x y : Int) (_h0 : 0 ≤ x) (_h1 : x ≤ 4294967295) (g0 : 1 ≤ y) (g1 : y ≤ 4294967295) : -2147483648 ≤ (sg x).tmod (sg y) ∧ (sg x).tmod (sg y) ≤ 2147483647 ∧ ((sg x).tmod (sg y)).natAbs < (sg y).natAbs ∧ (0 ≤ sg x → 0 ≤ (sg x).tmod (sg y)) ∧ (sg x ≤ 0 → (sg x).tmod (sg y) ≤ 0) := by
  have hy := sg_pos g0 g1
  have b := sg_bd (show 0 ≤ y by omega) g1
  have e : ((sg x).tmod (sg y)).natAbs = (sg x).natAbs % (sg y).natAbs := Int.natAbs_tmod _ _
  have l : (sg x).natAbs % (sg y).natAbs < (sg y).natAbs := Nat.mod_lt _ (by omega)
  have p := fun h : 0 ≤ sg x => Int.tmod_nonneg (sg y) h
  have n : sg x ≤ 0 → (sg x).tmod (sg y) ≤ 0 := by
    intro h
    have := Int.tmod_nonneg (sg y) (show 0 ≤ -(sg x) by omega)
    rw [Int.neg_tmod] at this; omega
  refine ⟨by omega, ?_, by omega, p, n⟩
  omega
theorem back44 (x y : Int) (h0 : 0 ≤ x) (h1 : x ≤ 4294967295) (g0 : 1 ≤ y) (g1 : y ≤ 4294967295) : szz (dv 44 x y) < szz y := by
  have t := tmod_bd x y h0 h1 g0 g1
  have d := dv_bd 44 x y h0 h1 (by omega) g1
  rw [← sg_natAbs d.1 d.2, ← sg_natAbs (by omega) g1, dv44 x y g0, sg_of t.1 t.2.1]
  omega
theorem back_sign (x y : Int) (h0 : 0 ≤ x) (h1 : x ≤ 4294967295) (g0 : 1 ≤ y) (g1 : y ≤ 4294967295) : dv 44 x y = 0 ∨ (x < 2147483648 ∧ dv 44 x y < 2147483648) ∨ (2147483648 ≤ x ∧ 2147483648 ≤ dv 44 x y) := by
  have t := tmod_bd x y h0 h1 g0 g1
  rw [dv44 x y g0]
  have : sg x = if x < 2147483648 then x else x - 4294967296 := rfl
  generalize sg x = X at *
  generalize X.tmod (sg y) = T at *
  split at this <;> omega
theorem dv44_nn (x y : Int) (cx : 2147483648 ≤ x) (h1 : x ≤ 4294967295) (cy : 2147483648 ≤ y) (g1 : y ≤ 4294967295) : -(-x % 4294967296 % (-y % 4294967296)) % 4294967296 = dv 44 x y := by
  rw [dv44 x y (by omega), sg_n cx, sg_n cy, neg_u (by omega) h1, neg_u (by omega) g1, Int.tmod_neg, Int.neg_tmod, Int.tmod_eq_emod_of_nonneg (by omega)]
end Go.Proofs.Ytajedochalaadaa
