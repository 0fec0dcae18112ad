/- Plain facts on double words: what a rung is worth, how two words stand, what whole numbers become. No conditions. -/
import Derived.Test.YtmahjlmblgboaaaDoorF0
namespace Go.Proofs.YtmahjlmblgboaaaDoor
open Ieee
set_option linter.unusedVariables false

/-- what the sign bit adds -/
def SW : Nat := 9223372036854775808
/-- the mantissa of a rung, and its place above the least one -/
def mg (r : Nat) : Nat := if r < B then r else B + r % B
def pl (r : Nat) : Nat := r / B - 1
/-- the value of a rung, in units of the least number -/
def Mv (r : Nat) : Nat := mg r * 2 ^ pl r
theorem B_pos : 0 < B := by decide
theorem Mv_low {r : Nat} (h : r < B) : Mv r = r := by
  unfold Mv mg pl
  rw [if_pos h, Nat.div_eq_of_lt h]; simp
theorem Mv_high {r : Nat} (h : B ≤ r) : Mv r = (B + r % B) * 2 ^ (r / B - 1) := by
  unfold Mv mg pl
  rw [if_neg (by omega)]
theorem Mv_at (q f : Nat) (h : f < B) : Mv ((q + 1) * B + f) = (B + f) * 2 ^ q := by
  have e1 : ((q + 1) * B + f) / B = q + 1 := by
    rw [Nat.mul_comm, Nat.mul_add_div B_pos, Nat.div_eq_of_lt h, Nat.add_zero]
  have e2 : ((q + 1) * B + f) % B = f := by
    rw [Nat.mul_comm, Nat.mul_add_mod, Nat.mod_eq_of_lt h]
  have e3 : B ≤ (q + 1) * B + f := by rw [Nat.add_mul, Nat.one_mul]; generalize q * B = X; omega
  rw [Mv_high e3, e1, e2, Nat.add_sub_cancel]
theorem rung_split (r : Nat) (h : B ≤ r) : ∃ q f, f < B ∧ r = (q + 1) * B + f := by
  refine ⟨r / B - 1, r % B, Nat.mod_lt _ B_pos, ?_⟩
  have a := Nat.div_add_mod r B
  have b : 1 ≤ r / B := (Nat.le_div_iff_mul_le B_pos).2 (by rw [Nat.one_mul]; exact h)
  rw [show r / B - 1 + 1 = r / B by omega, Nat.mul_comm]
  exact a.symm
/-- a higher rung is worth more -/
theorem Mv_lt {r t : Nat} (h : r < t) : Mv r < Mv t := by
  rcases Nat.lt_or_ge t B with c | c
  · rw [Mv_low (by omega), Mv_low c]; exact h
  obtain ⟨q, f, hf, rfl⟩ := rung_split t c
  rw [Mv_at q f hf]
  have p : 0 < 2 ^ q := Nat.two_pow_pos q
  have low : B ≤ (B + f) * 2 ^ q := Nat.le_trans (Nat.le_mul_of_pos_right B p) (Nat.mul_le_mul_right _ (Nat.le_add_right B f))
  rcases Nat.lt_or_ge r B with d | d
  · rw [Mv_low d]; omega
  obtain ⟨q', f', hf', rfl⟩ := rung_split r d
  rw [Mv_at q' f' hf']
  have hq : q' ≤ q := by
    rcases Nat.lt_or_ge q q' with e | e
    · have : (q + 1 + 1) * B ≤ (q' + 1) * B := Nat.mul_le_mul_right B (by omega)
      rw [Nat.add_mul (q + 1), Nat.one_mul] at this
      generalize (q + 1) * B = X at *; generalize (q' + 1) * B = Y at *; omega
    · exact e
  by_cases e : q' = q
  · subst e
    exact Nat.mul_lt_mul_of_pos_right (by generalize (q' + 1) * B = X at *; omega) p
  · have h1 : (B + f') * 2 ^ q' < (2 * B) * 2 ^ q' := Nat.mul_lt_mul_of_pos_right (by omega) (Nat.two_pow_pos q')
    have h2 : (2 * B) * 2 ^ q' = B * 2 ^ (q' + 1) := by rw [Nat.pow_succ, Nat.mul_comm 2 B, Nat.mul_assoc, Nat.mul_comm 2]
    have h3 : B * 2 ^ (q' + 1) ≤ B * 2 ^ q := Nat.mul_le_mul_left B (Nat.pow_le_pow_right (by decide) (by omega))
    have h4 : B * 2 ^ q ≤ (B + f) * 2 ^ q := Nat.mul_le_mul_right _ (Nat.le_add_right B f)
    omega
theorem Mv_zero : Mv 0 = 0 := Mv_low B_pos
/-- the rung of a rung's value is that rung -/
theorem rk_Mv (r : Nat) (h : r ≤ I) : rk (Mv r) 0 = r := by
  rcases Nat.lt_or_ge r B with c | c
  · rw [Mv_low c]
    by_cases h0 : r = 0
    · subst h0; rfl
    have hl : r.log2 < 52 := (Nat.log2_lt h0).2 (by rw [← B_pow]; exact c)
    unfold rk
    rw [if_neg h0, show max (r.log2 - 52) 0 = 0 by omega, Nat.sub_zero, Nat.zero_mul, Nat.zero_add, Nat.pow_zero]
    have := rhe_exact r 1 (by decide)
    rw [Nat.mul_one] at this
    rw [this]
    exact Nat.min_eq_left h
  · obtain ⟨q, f, hf, rfl⟩ := rung_split r c
    rw [Mv_at q f hf]
    have p : 0 < 2 ^ q := Nat.two_pow_pos q
    have hN : (B + f) * 2 ^ q ≠ 0 := Nat.mul_ne_zero (by have := B_pos; omega) (by omega)
    have hb : (B + f).log2 = 52 := by
      rw [Nat.log2_eq_iff (by have := B_pos; omega), ← B_pow]
      exact ⟨Nat.le_add_right _ _, by rw [Nat.pow_succ, ← B_pow]; omega⟩
    have hl : ((B + f) * 2 ^ q).log2 = 52 + q := by rw [log2_scale _ _ (by have := B_pos; omega), hb]
    unfold rk
    rw [if_neg hN, hl, show max (52 + q - 52) 0 = q by omega, Nat.sub_zero, rhe_exact _ _ p, show q * B + (B + f) = (q + 1) * B + f by rw [Nat.add_mul, Nat.one_mul, Nat.add_assoc]]
    exact Nat.min_eq_left h

/-! ### Words -/
/-- a word's rung -/
def rg (x : Nat) : Nat := x % SW
/-- has a word a sign? -/
def sg (x : Nat) : Bool := x / SW % 2 == 1
/-- is a word no number? -/
def nanB (x : Nat) : Bool := decide (I < rg x)
theorem read_num (x : Nat) (h : rg x < I) : double.read x = .number (sg x) (mg (rg x)) (-1074 + (pl (rg x) : Int)) := by
  unfold Format.read
  rw [d_sign, d_binade, d_inf, d_least]
  show (if x % SW < B then Datum.number (sg x) (x % SW) (-1074) else if x % SW < I then Datum.number (sg x) (B + x % SW % B) (-1074 + ((x % SW / B - 1 : Nat) : Int)) else if x % SW = I then Datum.infinity (sg x) else Datum.nan (sg x) (x % SW - I)) = _
  unfold mg pl rg at *
  split
  · rename_i c
    rw [Nat.div_eq_of_lt c]; simp
  · rfl
theorem read_inf (x : Nat) (h : rg x = I) : double.read x = .infinity (sg x) := by
  unfold Format.read
  rw [d_sign, d_binade, d_inf, d_least]
  show (if x % SW < B then Datum.number (sg x) (x % SW) (-1074) else if x % SW < I then Datum.number (sg x) (B + x % SW % B) (-1074 + ((x % SW / B - 1 : Nat) : Int)) else if x % SW = I then Datum.infinity (sg x) else Datum.nan (sg x) (x % SW - I)) = _
  have : x % SW = I := h
  rw [if_neg (by rw [this]; decide), if_neg (by rw [this]; decide), if_pos this]
theorem read_nan (x : Nat) (h : I < rg x) : double.read x = .nan (sg x) (rg x - I) := by
  unfold Format.read
  rw [d_sign, d_binade, d_inf, d_least]
  show (if x % SW < B then Datum.number (sg x) (x % SW) (-1074) else if x % SW < I then Datum.number (sg x) (B + x % SW % B) (-1074 + ((x % SW / B - 1 : Nat) : Int)) else if x % SW = I then Datum.infinity (sg x) else Datum.nan (sg x) (x % SW - I)) = _
  have h' : I < x % SW := h
  have hB : B ≤ I := by decide
  rw [if_neg (Nat.not_lt.2 (Nat.le_trans hB (Nat.le_of_lt h'))), if_neg (Nat.not_lt.2 (Nat.le_of_lt h')), if_neg (Nat.ne_of_gt h')]
  rfl
/-- the word of a sign and a rung -/
def wd (s : Bool) (r : Nat) : Nat := if s then SW + r else r
theorem word_wd (s : Bool) (r : Nat) : double.word s r = wd s r := by unfold Format.word wd; rw [d_sign]; rfl
theorem I_lt : I < SW := by decide
theorem rg_wd (s : Bool) {r : Nat} (h : r < SW) : rg (wd s r) = r := by
  unfold rg wd
  cases s
  · exact Nat.mod_eq_of_lt h
  · show (SW + r) % SW = r
    rw [Nat.add_mod_left, Nat.mod_eq_of_lt h]
theorem sg_wd (s : Bool) {r : Nat} (h : r < SW) : sg (wd s r) = s := by
  unfold sg wd
  cases s
  · show (r / SW % 2 == 1) = false
    rw [Nat.div_eq_of_lt h]; rfl
  · show ((SW + r) / SW % 2 == 1) = true
    rw [Nat.add_div_left _ (by decide), Nat.div_eq_of_lt h]; rfl
theorem wd_of (x : Nat) (h : x < 2 * SW) : wd (sg x) (rg x) = x := by
  have a := Nat.div_add_mod x SW
  have b : x / SW < 2 := (Nat.div_lt_iff_lt_mul (by decide)).2 h
  unfold wd sg rg
  have c : x / SW = 0 ∨ x / SW = 1 := by generalize x / SW = q at b; omega
  rcases c with c | c
  · rw [c, Nat.mul_zero, Nat.zero_add] at a
    rw [c]
    exact a
  · rw [c, Nat.mul_one] at a
    rw [c]
    exact a
theorem rg_lt (x : Nat) : rg x < SW := Nat.mod_lt _ (by decide)

/-! ### How two words stand -/
/-- a word's place among the words -/
def ky (x : Nat) : Int := if sg x then -(rg x : Int) else rg x
theorem signed_eq (s : Bool) (m u : Nat) : signed s m u = if s then -((m * 2 ^ u : Nat) : Int) else ((m * 2 ^ u : Nat) : Int) := by
  unfold signed; rw [Nat.shiftLeft_eq]
theorem cmp_scale (a b : Int) (c : Nat) (hc : 0 < c) : compare (a * c) (b * c) = compare a b := by
  have h : (0 : Int) < c := by omega
  rcases Int.lt_trichotomy a b with d | d | d
  · rw [Int.compare_eq_lt.2 d, Int.compare_eq_lt.2 (Int.mul_lt_mul_of_pos_right d h)]
  · subst d; rw [Int.compare_eq_eq.2 rfl, Int.compare_eq_eq.2 rfl]
  · rw [Int.compare_eq_gt.2 d, Int.compare_eq_gt.2 (Int.mul_lt_mul_of_pos_right d h)]
/-- the value of a sign and a rung -/
def sv (s : Bool) (r : Nat) : Int := if s then -(Mv r : Int) else Mv r
theorem signed_sv (s : Bool) (r : Nat) (b : Int) (hb : b ≤ -1074 + (pl r : Int)) (h0 : -1074 ≤ b) : signed s (mg r) (-1074 + (pl r : Int) - b).toNat * ((2 ^ (b + 1074).toNat : Nat) : Int) = sv s r := by
  rw [signed_eq]
  have e : mg r * 2 ^ (-1074 + (pl r : Int) - b).toNat * 2 ^ (b + 1074).toNat = Mv r := by
    rw [Nat.mul_assoc, ← Nat.pow_add, show (-1074 + (pl r : Int) - b).toNat + (b + 1074).toNat = pl r by omega]; rfl
  unfold sv
  rw [← e]
  cases s
  · simp
  · simp [Int.neg_mul]
theorem sv_cmp (s t : Bool) (r u : Nat) : compare (sv s r) (sv t u) = compare (if s then -(r : Int) else (r : Int)) (if t then -(u : Int) else (u : Int)) := by
  have hp : ∀ x : Nat, x = 0 ∧ Mv x = 0 ∨ 0 < x ∧ 0 < Mv x := fun x => by
    rcases Nat.eq_zero_or_pos x with e | e
    · subst e; exact .inl ⟨rfl, Mv_zero⟩
    · have := Mv_lt e; rw [Mv_zero] at this; exact .inr ⟨e, this⟩
  have key : (r < u ∧ Mv r < Mv u) ∨ (r = u ∧ Mv r = Mv u) ∨ (u < r ∧ Mv u < Mv r) := by
    rcases Nat.lt_trichotomy r u with d | d | d
    · exact .inl ⟨d, Mv_lt d⟩
    · exact .inr (.inl ⟨d, by rw [d]⟩)
    · exact .inr (.inr ⟨d, Mv_lt d⟩)
  have hr := hp r
  have hu := hp u
  unfold sv
  generalize Mv r = a at *
  generalize Mv u = b at *
  have go : ∀ x y z w : Int, (x < y ↔ z < w) → (x = y ↔ z = w) → compare x y = compare z w := fun x y z w h1 h2 => by
    rcases Int.lt_trichotomy x y with d | d | d
    · rw [Int.compare_eq_lt.2 d, Int.compare_eq_lt.2 (h1.1 d)]
    · rw [Int.compare_eq_eq.2 d, Int.compare_eq_eq.2 (h2.1 d)]
    · rw [Int.compare_eq_gt.2 d, Int.compare_eq_gt.2 (by have := mt h1.2 (by omega); have := mt h2.2 (by omega); omega)]
  cases s <;> cases t <;> (apply go <;> simp <;> omega)
theorem order_ky (x y : Nat) (hx : rg x ≤ I) (hy : rg y ≤ I) : double.order x y = some (compare (ky x) (ky y)) := by
  unfold Format.order
  rcases Nat.lt_or_ge (rg x) I with c | c
  · rw [read_num x c]
    rcases Nat.lt_or_ge (rg y) I with d | d
    · rw [read_num y d]
      unfold Datum.order
      dsimp only
      congr 1
      obtain ⟨b, hb⟩ : ∃ b, min (-1074 + (pl (rg x) : Int)) (-1074 + (pl (rg y) : Int)) = b := ⟨_, rfl⟩
      rw [hb, ← cmp_scale _ _ (2 ^ (b + 1074).toNat) (Nat.two_pow_pos _), signed_sv _ _ _ (by omega) (by omega), signed_sv _ _ _ (by omega) (by omega), sv_cmp]
      rfl
    · have e : rg y = I := by omega
      rw [read_inf y e]
      unfold Datum.order
      dsimp only
      unfold ky
      rw [e]
      cases sg y
      · have : compare (if sg x = true then -(rg x : Int) else (rg x : Int)) (I : Int) = .lt := Int.compare_eq_lt.2 (by generalize I = i at *; split <;> omega)
        simp [this]
      · have : compare (if sg x = true then -(rg x : Int) else (rg x : Int)) (-(I : Int)) = .gt := Int.compare_eq_gt.2 (by generalize I = i at *; split <;> omega)
        simp [this]
  · have e : rg x = I := by omega
    rw [read_inf x e]
    rcases Nat.lt_or_ge (rg y) I with d | d
    · rw [read_num y d]
      unfold Datum.order
      dsimp only
      unfold ky
      rw [e]
      cases sg x
      · have : compare (I : Int) (if sg y = true then -(rg y : Int) else (rg y : Int)) = .gt := Int.compare_eq_gt.2 (by generalize I = i at *; split <;> omega)
        simp [this]
      · have : compare (-(I : Int)) (if sg y = true then -(rg y : Int) else (rg y : Int)) = .lt := Int.compare_eq_lt.2 (by generalize I = i at *; split <;> omega)
        simp [this]
    · have e' : rg y = I := by omega
      rw [read_inf y e']
      unfold Datum.order
      dsimp only
      unfold ky
      rw [e, e']
      cases sg x <;> cases sg y <;> simp <;> decide
theorem order_nan (x y : Nat) (h : I < rg x ∨ I < rg y) : double.order x y = none := by
  unfold Format.order
  rcases h with h | h
  · rw [read_nan x h]; unfold Datum.order; rfl
  · rw [read_nan y h]; unfold Datum.order; cases double.read x <;> rfl
end Go.Proofs.YtmahjlmblgboaaaDoor
