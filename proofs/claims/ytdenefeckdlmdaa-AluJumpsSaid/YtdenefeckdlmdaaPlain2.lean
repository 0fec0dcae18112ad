/- The plain arithmetic of products, branches and shifts of words, with no program in sight. No conditions. -/
import Derived.Test.YtdenefeckdlmdaaPlain
namespace Go.Proofs.Ytdenefeckdlmdaa
open Go.RowKit

/-- a half of a product -/
def mu (op x y : Int) : Int :=
  if op = 38 then x * y % 4294967296
  else if op = 39 then wrap32 x * wrap32 y / 4294967296 % 4294967296
  else if op = 40 then wrap32 x * y / 4294967296 % 4294967296
  else if op = 41 then x * y / 4294967296 % 4294967296
  else 0
/-- whether a branch goes -/
def br (op x y : Int) : Bool :=
  if op = 5 then x == y
  else if op = 6 then x != y
  else if op = 7 then decide (wrap32 x < wrap32 y)
  else if op = 8 then decide (wrap32 y ≤ wrap32 x)
  else if op = 9 then decide (x < y)
  else if op = 10 then decide (y ≤ x)
  else false
/-- what comes behind an instruction -/
def nx (op im pc x y : Int) : Int :=
  if op = 3 ∨ br op x y = true then (pc + im) % 4294967296
  else if op = 4 then (x + im) % 4294967296 / 2 * 2
  else (pc + 4) % 4294967296
theorem mu38 (x y : Int) : mu 38 x y = x * y % 4294967296 := rfl
theorem mu39 (x y : Int) : mu 39 x y = wrap32 x * wrap32 y / 4294967296 % 4294967296 := rfl
theorem mu40 (x y : Int) : mu 40 x y = wrap32 x * y / 4294967296 % 4294967296 := rfl
theorem mu41 (x y : Int) : mu 41 x y = x * y / 4294967296 % 4294967296 := rfl
theorem mu_else (op x y : Int) (h : op < 38 ∨ 41 < op) : mu op x y = 0 := by
  unfold mu; rw [if_neg (by omega), if_neg (by omega), if_neg (by omega), if_neg (by omega)]
theorem mu_wd (op x y : Int) : Wd (mu op x y) := by
  unfold mu
  exact wd_ite (wd_mod _) (wd_ite (wd_mod _) (wd_ite (wd_mod _) (wd_ite (wd_mod _) ⟨by decide, by decide⟩)))
theorem mu_bd (op x y : Int) : 0 ≤ mu op x y ∧ mu op x y ≤ 4294967295 := mu_wd op x y
theorem br_else (op x y : Int) (h : op < 5 ∨ 10 < op) : br op x y = false := by
  unfold br; rw [if_neg (by omega), if_neg (by omega), if_neg (by omega), if_neg (by omega), if_neg (by omega), if_neg (by omega)]
theorem br5 (x y : Int) : br 5 x y = (x == y) := rfl
theorem br6 (x y : Int) : br 6 x y = (x != y) := rfl
theorem br7 (x y : Int) : br 7 x y = decide (wrap32 x < wrap32 y) := rfl
theorem br8 (x y : Int) : br 8 x y = decide (wrap32 y ≤ wrap32 x) := rfl
theorem br9 (x y : Int) : br 9 x y = decide (x < y) := rfl
theorem br10 (x y : Int) : br 10 x y = decide (y ≤ x) := rfl
theorem nx_wd (op im pc x y : Int) : 0 ≤ nx op im pc x y ∧ nx op im pc x y ≤ 4294967295 := by
  have : Wd (nx op im pc x y) := by
    unfold nx
    exact wd_ite (wd_mod _) (wd_ite ⟨by omega, by omega⟩ (wd_mod _))
  exact this
theorem even_of (v : Int) (h0 : 0 ≤ v) (h1 : v ≤ 4294967295) : bits .andNot .u32 v 1 = v / 2 * 2 := by
  rw [u32_andNot v 1 h0 (by omega) (by omega) (by omega), show 4294967295 - (1 : Int).toNat = 4294967294 from rfl, nat_hi32_1]; omega
/-- a word is its signed number's rest -/
theorem wrap32_back (x : Int) : wrap32 x % 4294967296 = x % 4294967296 := by unfold wrap32; omega
theorem wrap32_in (n : Int) (h0 : -2147483648 ≤ n) (h1 : n ≤ 2147483647) : wrap32 (n % 4294967296) = n := by unfold wrap32; omega
theorem wrap32_inj {x y : Int} (h0 : 0 ≤ x) (h1 : x ≤ 4294967295) (g0 : 0 ≤ y) (g1 : y ≤ 4294967295) (h : wrap32 x = wrap32 y) : x = y := by unfold wrap32 at h; omega

/-! ### shifts -/
theorem M32 : (4294967296 : Int) = 2 ^ 32 := by decide
theorem pow_pos (n : Nat) : (0 : Int) < 2 ^ n := Int.pow_pos (by decide)
theorem ad30s (a s : Int) (h0 : 0 ≤ s) (h1 : s ≤ 31) : ad 30 a s = a * 2 ^ s.toNat % 4294967296 := by rw [ad30, show s % 32 = s by omega]
theorem ad34s (a s : Int) (h0 : 0 ≤ s) (h1 : s ≤ 31) : ad 34 a s = a / 2 ^ s.toNat := by rw [ad34, show s % 32 = s by omega]
theorem ad35s (a s : Int) (h0 : 0 ≤ s) (h1 : s ≤ 31) : ad 35 a s = wrap32 a / 2 ^ s.toNat % 4294967296 := by rw [ad35, show s % 32 = s by omega]
theorem pow_cast (n : Nat) : ((2 ^ n : Nat) : Int) = 2 ^ n := by simp
theorem up_down (A n : Nat) (hn : n ≤ 31) : A * 2 ^ n % 2 ^ 32 / 2 ^ n = A &&& (4294967295 / 2 ^ n) := by
  have e : (2 : Nat) ^ 32 = 2 ^ (32 - n) * 2 ^ n := by rw [← Nat.pow_add]; congr 1; omega
  have e2 : 4294967295 / 2 ^ n = 2 ^ (32 - n) - 1 := by
    have : 4294967295 = 2 ^ (32 - n) * 2 ^ n - 1 := by rw [← e]
    have hp := Nat.two_pow_pos n
    have hq := Nat.two_pow_pos (32 - n)
    rw [this]
    refine Nat.div_eq_of_lt_le ?_ ?_
    · rw [Nat.sub_mul, Nat.one_mul]; omega
    · rw [Nat.sub_add_cancel hq]
      have := Nat.mul_pos hq hp
      omega
  rw [e2, Nat.and_two_pow_sub_one_eq_mod, e, Nat.mul_mod_mul_right, Nat.mul_div_cancel _ (Nat.two_pow_pos n)]
theorem down_up (A n : Nat) (hn : n ≤ 31) (hA : A < 4294967296) : A / 2 ^ n * 2 ^ n % 2 ^ 32 = A &&& (4294967295 * 2 ^ n % 4294967296) := by
  have hp := Nat.two_pow_pos n
  have hle : 2 ^ n ≤ 2 ^ 32 := Nat.pow_le_pow_right (by decide) (by omega)
  have e2 : 4294967295 * 2 ^ n % 4294967296 = 2 ^ 32 - 2 ^ n := by
    have : 4294967295 * 2 ^ n = (2 ^ 32 - 2 ^ n) + 4294967296 * (2 ^ n - 1) := by
      have : (4294967296 : Nat) = 2 ^ 32 := by decide
      omega
    rw [this, Nat.add_mul_mod_self_left, Nat.mod_eq_of_lt (by omega)]
  rw [e2, nat_midmask 32 n A (by omega), Nat.mod_eq_of_lt (show A < 2 ^ 32 by omega)]
  have := Nat.div_mul_le_self A (2 ^ n)
  rw [Nat.mod_eq_of_lt (by omega)]
theorem shifts_up (a s : Int) (h0 : 0 ≤ a) (h1 : a ≤ 4294967295) (s0 : 0 ≤ s) (s1 : s ≤ 31) : ad 34 (ad 30 a s) s = bits .and .u32 a (4294967295 / 2 ^ s.toNat) := by
  obtain ⟨A, rfl⟩ := Int.eq_ofNat_of_zero_le h0
  obtain ⟨n, rfl⟩ := Int.eq_ofNat_of_zero_le s0
  have b := shr_bd 4294967295 n (by decide) (by decide)
  rw [ad34s _ _ s0 s1, ad30s _ _ s0 s1, Int.toNat_natCast, u32_and _ _ h0 (by omega) b.1 (by omega), Int.toNat_natCast]
  have h := up_down A n (by omega)
  have e3 : ((4294967295 : Int) / 2 ^ n).toNat = 4294967295 / 2 ^ n := by
    have : ((4294967295 / 2 ^ n : Nat) : Int) = (4294967295 : Int) / 2 ^ n := by rw [Int.natCast_ediv, pow_cast]; rfl
    rw [← this, Int.toNat_natCast]
  rw [e3, ← h, M32]
  simp
theorem shifts_down (a s : Int) (h0 : 0 ≤ a) (h1 : a ≤ 4294967295) (s0 : 0 ≤ s) (s1 : s ≤ 31) : ad 30 (ad 34 a s) s = bits .and .u32 a (4294967295 * 2 ^ s.toNat % 4294967296) := by
  obtain ⟨A, rfl⟩ := Int.eq_ofNat_of_zero_le h0
  obtain ⟨n, rfl⟩ := Int.eq_ofNat_of_zero_le s0
  rw [ad30s _ _ s0 s1, ad34s _ _ s0 s1, Int.toNat_natCast, u32_and _ _ h0 (by omega) (by omega) (by omega), Int.toNat_natCast]
  have h := down_up A n (by omega) (by omega)
  have e3 : ((4294967295 : Int) * 2 ^ n % 4294967296).toNat = 4294967295 * 2 ^ n % 4294967296 := by
    have : ((4294967295 * 2 ^ n % 4294967296 : Nat) : Int) = (4294967295 : Int) * 2 ^ n % 4294967296 := by rw [Int.natCast_emod, Int.natCast_mul, pow_cast]; rfl
    rw [← this, Int.toNat_natCast]
  rw [e3, ← h, M32]
  simp
theorem shl_shl (a s t : Int) (s0 : 0 ≤ s) (t0 : 0 ≤ t) (h : s + t ≤ 31) : ad 30 (ad 30 a s) t = ad 30 a (s + t) := by
  rw [ad30s _ t t0 (by omega), ad30s _ s s0 (by omega), ad30s _ (s + t) (by omega) h, show (s + t).toNat = s.toNat + t.toNat by omega, Int.pow_add, Int.mul_emod (a * 2 ^ s.toNat % 4294967296), Int.emod_emod, ← Int.mul_emod, Int.mul_assoc]
theorem shr_shr (a s t : Int) (s0 : 0 ≤ s) (t0 : 0 ≤ t) (h : s + t ≤ 31) : ad 34 (ad 34 a s) t = ad 34 a (s + t) := by
  rw [ad34s _ t t0 (by omega), ad34s _ s s0 (by omega), ad34s _ (s + t) (by omega) h, show (s + t).toNat = s.toNat + t.toNat by omega, Int.pow_add, Int.ediv_ediv_of_nonneg (Int.le_of_lt (pow_pos _))]
theorem div_small (n : Int) (k : Nat) (h0 : -2147483648 ≤ n) (h1 : n ≤ 2147483647) : -2147483648 ≤ n / 2 ^ k ∧ n / 2 ^ k ≤ 2147483647 := by
  have p := pow_pos k
  constructor
  · rw [Int.le_ediv_iff_mul_le p]
    have : (-2147483648 : Int) * 2 ^ k ≤ -2147483648 * 1 := Int.mul_le_mul_of_nonpos_left (by decide) (by omega)
    omega
  · rcases Int.le_total 0 n with c | c
    · have := Int.ediv_le_self (a := n) (2 ^ k) c; omega
    · have : n / 2 ^ k ≤ 0 := by
        have := Int.ediv_le_ediv p c
        simpa using this
      omega
theorem sra_sra (a s t : Int) (s0 : 0 ≤ s) (t0 : 0 ≤ t) (h : s + t ≤ 31) : ad 35 (ad 35 a s) t = ad 35 a (s + t) := by
  have b := wrap32_bd a
  have d := div_small (wrap32 a) s.toNat b.1 b.2
  rw [ad35s _ t t0 (by omega), ad35s _ s s0 (by omega), ad35s _ (s + t) (by omega) h, wrap32_in _ d.1 d.2, show (s + t).toNat = s.toNat + t.toNat by omega, Int.pow_add, Int.ediv_ediv_of_nonneg (Int.le_of_lt (pow_pos _))]
theorem shift_none (a : Int) (h0 : 0 ≤ a) (h1 : a ≤ 4294967295) : ad 30 a 0 = a ∧ ad 34 a 0 = a ∧ ad 35 a 0 = a := by
  refine ⟨?_, ?_, ?_⟩
  · rw [ad30s a 0 (by decide) (by decide)]; simp; omega
  · rw [ad34s a 0 (by decide) (by decide)]; simp
  · rw [ad35s a 0 (by decide) (by decide)]
    have := wrap32_back a
    simp
    omega
/-! ### sums and bits -/
theorem and_or_sum : ∀ (n x y : Nat), x < 2 ^ n → y < 2 ^ n → (x &&& y) + (x ||| y) = x + y
  | 0, x, y, hx, hy => by
    have : x = 0 := by simp at hx; exact hx
    have : y = 0 := by simp at hy; exact hy
    subst_vars; rfl
  | n + 1, x, y, hx, hy => by
    have ih := and_or_sum n (x / 2) (y / 2) (by rw [Nat.pow_succ] at hx; omega) (by rw [Nat.pow_succ] at hy; omega)
    have a1 : (x &&& y) / 2 = x / 2 &&& y / 2 := Nat.and_div_two
    have a2 : (x ||| y) / 2 = x / 2 ||| y / 2 := Nat.or_div_two
    have b1 : (x &&& y) % 2 = (x % 2) &&& (y % 2) := by simpa using Nat.and_mod_two_pow (n := 1) (a := x) (b := y)
    have b2 : (x ||| y) % 2 = (x % 2) ||| (y % 2) := by simpa using Nat.or_mod_two_pow (n := 1) (a := x) (b := y)
    have hx2 : x % 2 = 0 ∨ x % 2 = 1 := by omega
    have hy2 : y % 2 = 0 ∨ y % 2 = 1 := by omega
    rcases hx2 with p | p <;> rcases hy2 with q | q <;> rw [p, q] at b1 b2
    · have b1 := b1.trans (show (0 : Nat) &&& 0 = 0 from rfl); have b2 := b2.trans (show (0 : Nat) ||| 0 = 0 from rfl); omega
    · have b1 := b1.trans (show (0 : Nat) &&& 1 = 0 from rfl); have b2 := b2.trans (show (0 : Nat) ||| 1 = 1 from rfl); omega
    · have b1 := b1.trans (show (1 : Nat) &&& 0 = 0 from rfl); have b2 := b2.trans (show (1 : Nat) ||| 0 = 1 from rfl); omega
    · have b1 := b1.trans (show (1 : Nat) &&& 1 = 1 from rfl); have b2 := b2.trans (show (1 : Nat) ||| 1 = 1 from rfl); omega
theorem and_or_u32 (x y : Int) (h0 : 0 ≤ x) (h1 : x ≤ 4294967295) (g0 : 0 ≤ y) (g1 : y ≤ 4294967295) : bits .and .u32 x y + bits .or .u32 x y = x + y := by
  rw [u32_and x y h0 (by omega) g0 (by omega), u32_or x y h0 (by omega) g0 (by omega)]
  have := and_or_sum 32 x.toNat y.toNat (by omega) (by omega)
  omega
theorem xor_all (y : Int) (g0 : 0 ≤ y) (g1 : y ≤ 4294967295) : bits .xor .u32 y 4294967295 = 4294967295 - y := by
  rw [u32_xor y 4294967295 g0 (by omega) (by decide) (by decide)]
  have e := congrArg BitVec.toNat (BitVec.xor_allOnes (x := BitVec.ofNat 32 y.toNat))
  rw [BitVec.toNat_xor, BitVec.toNat_ofNat, BitVec.toNat_allOnes, BitVec.toNat_not, BitVec.toNat_ofNat, Nat.mod_eq_of_lt (show y.toNat < 2 ^ 32 by omega)] at e
  have e' : (y.toNat ^^^ (4294967295 : Int).toNat) = 2 ^ 32 - 1 - y.toNat := e
  omega
theorem absorb (x y : Int) (h0 : 0 ≤ x) (h1 : x ≤ 4294967295) (g0 : 0 ≤ y) (g1 : y ≤ 4294967295) : ad 37 x (ad 36 x y) = x ∧ ad 36 x (ad 37 x y) = x ∧ ad 33 (ad 33 x y) y = x := by
  have b1 := and_bd x y h0 h1 g0 g1
  have b2 := or_bd x y h0 h1 g0 g1
  have b3 := xor_bd x y h0 h1 g0 g1
  refine ⟨?_, ?_, ?_⟩
  · rw [ad36, ad37, u32_and x _ h0 (by omega) b2.1 (by omega), u32_or x y h0 (by omega) g0 (by omega), Int.toNat_natCast]
    have : x.toNat &&& (x.toNat ||| y.toNat) = x.toNat := by
      apply Nat.eq_of_testBit_eq; intro i; rw [Nat.testBit_and, Nat.testBit_or]; cases x.toNat.testBit i <;> simp
    rw [this]; omega
  · rw [ad36, ad37, u32_or x _ h0 (by omega) b1.1 (by omega), u32_and x y h0 (by omega) g0 (by omega), Int.toNat_natCast]
    have : x.toNat ||| (x.toNat &&& y.toNat) = x.toNat := by
      apply Nat.eq_of_testBit_eq; intro i; rw [Nat.testBit_or, Nat.testBit_and]; cases x.toNat.testBit i <;> simp
    rw [this]; omega
  · rw [ad33, ad33, u32_xor _ y b3.1 (by omega) g0 (by omega), u32_xor x y h0 (by omega) g0 (by omega), Int.toNat_natCast, Nat.xor_assoc, Nat.xor_self, Nat.xor_zero]; omega
end Go.Proofs.Ytdenefeckdlmdaa
