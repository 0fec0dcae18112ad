/- Plain facts on how rates stand, and on a rate's text. No conditions. -/
import Derived.Test.YtmahjlmblgboaaaDoorF2
import Derived.Lib.ItoaNum
namespace Go.Proofs.YtmahjlmblgboaaaDoor
set_option linter.unusedVariables false
/-- a rate's place among all: none comes first, then by size, -0 ahead of 0 -/
def tk (x : Nat) : Int := if nanB x then -100000000000000000000 else if sg x then -(2 * (rg x : Int)) - 1 else 2 * (rg x : Int)
def cmpI (p q : Int) : Int := if p < q then -1 else if q < p then 1 else 0
theorem cmpI_lt {p q : Int} (h : p < q) : cmpI p q = -1 := if_pos h
theorem cmpI_gt {p q : Int} (h : q < p) : cmpI p q = 1 := by unfold cmpI; rw [if_neg (by omega), if_pos h]
theorem cmpI_eq {p q : Int} (h : p = q) : cmpI p q = 0 := by unfold cmpI; rw [if_neg (by omega), if_neg (by omega)]
theorem tk_nan {x : Nat} (h : nanB x = true) : tk x = -100000000000000000000 := by unfold tk; rw [if_pos h]
theorem tk_num {x : Nat} (h : nanB x = false) : tk x = if sg x then -(2 * (rg x : Int)) - 1 else 2 * (rg x : Int) := by unfold tk; rw [h]; rfl
theorem rg_lt' (x : Nat) : rg x < 9223372036854775808 := rg_lt x
theorem tk_lo {x : Nat} (h : nanB x = false) : -100000000000000000000 < tk x := by
  rw [tk_num h]; have := rg_lt' x; split <;> omega
theorem nan_le {x : Nat} (h : nanB x = false) : rg x ≤ I := by unfold nanB at h; simp at h; exact h
theorem nan_lt {x : Nat} (h : nanB x = true) : I < rg x := by unfold nanB at h; simp at h; exact h
theorem le_nan {x : Nat} (h : rg x ≤ I) : nanB x = false := by unfold nanB; simp; exact h
/-- words that are alike -/
theorem word_eq {x y : Nat} (hx : x < 2 * SW) (hy : y < 2 * SW) (h : nanB x = false) (h' : nanB y = false) (e : tk x = tk y) : x = y := by
  rw [tk_num h, tk_num h'] at e
  have : sg x = sg y ∧ rg x = rg y := by
    cases hs : sg x <;> cases ht : sg y <;> rw [hs, ht] at e <;> simp at e <;> first | (exact ⟨rfl, by omega⟩) | omega
  rw [← wd_of x hx, ← wd_of y hy, this.1, this.2]
theorem ky_lt {x y : Nat} (h : nanB x = false) (h' : nanB y = false) : ky x < ky y → tk x < tk y := by
  rw [tk_num h, tk_num h']; unfold ky; cases sg x <;> cases sg y <;> simp <;> omega
theorem ky_eq_sg {x y : Nat} (h : nanB x = false) (h' : nanB y = false) (e : ky x = ky y) : (tk x < tk y ↔ sg x = true ∧ sg y = false) ∧ (tk y < tk x ↔ sg x = false ∧ sg y = true) := by
  rw [tk_num h, tk_num h']; unfold ky at e; cases hx : sg x <;> cases hy : sg y <;> rw [hx, hy] at e <;> simp at * <;> omega
/-- a rate's rank: none, below 0, -0, 0, above -/
def rnk (x : Nat) : Int := if nanB x then 0 else if ky x < 0 then 1 else if 0 < ky x then 4 else if sg x then 2 else 3
theorem rnk_lt {x y : Nat} (h : rnk x < rnk y) : tk x < tk y := by
  unfold rnk at h
  cases hx : nanB x with
  | true =>
    cases hy : nanB y with
    | true => rw [hx, hy] at h; simp at h
    | false => rw [tk_nan hx]; exact tk_lo hy
  | false =>
    cases hy : nanB y with
    | true => rw [hx, hy] at h; simp at h; split at h <;> (try split at h) <;> (try split at h) <;> omega
    | false =>
      rw [hx, hy] at h
      rw [tk_num hx, tk_num hy]
      unfold ky at h
      cases hs : sg x <;> cases ht : sg y <;> rw [hs, ht] at h <;> simp at h ⊢ <;> (repeat' split at h) <;> omega
theorem rnk_eq {x y : Nat} (h : rnk x = rnk y) : (nanB x = true ∧ nanB y = true ∧ tk x = tk y) ∨ (nanB x = false ∧ nanB y = false ∧ (ky x < ky y ↔ tk x < tk y) ∧ (ky y < ky x ↔ tk y < tk x)) := by
  unfold rnk at h
  cases hx : nanB x with
  | true =>
    cases hy : nanB y with
    | true => exact .inl ⟨rfl, rfl, by rw [tk_nan hx, tk_nan hy]⟩
    | false => rw [hx, hy] at h; simp at h; (repeat' split at h) <;> omega
  | false =>
    cases hy : nanB y with
    | true => rw [hx, hy] at h; simp at h; (repeat' split at h) <;> omega
    | false =>
      refine .inr ⟨rfl, rfl, ?_⟩
      rw [hx, hy] at h
      rw [tk_num hx, tk_num hy]
      unfold ky at *
      cases hs : sg x <;> cases ht : sg y <;> rw [hs, ht] at h <;> simp at h ⊢ <;> (repeat' split at h) <;> omega
/-- are two rates the same? -/
def sameB (x y : Nat) : Bool := decide (tk x = tk y)
/-! ### A rate's text -/
def pad3 (n : Nat) : List UInt8 := (Lib.decDigits (1000 + n)).drop 1
def txt (x : Nat) : List UInt8 := if nanB x then [110, 111, 110, 101] else (if sg x then [45] else []) ++ (if rg x < C12 then Lib.decDigits (Mv (rg x) / U) ++ [46] ++ pad3 (Mv (th (rg x)) / U) else [105, 110, 102])
theorem dig1 {u : Nat} (h : u < 10) : Lib.decDigits u = [UInt8.ofNat (48 + u)] := by rw [Lib.decDigits, dif_pos h]
theorem dig2 {u : Nat} (h : ¬ u < 10) : Lib.decDigits u = Lib.decDigits (u / 10) ++ [UInt8.ofNat (48 + u % 10)] := by rw [Lib.decDigits, dif_neg h]
theorem dig_1000 (n : Nat) (h : n ≤ 999) : Lib.decDigits (1000 + n) = [49, UInt8.ofNat (48 + n / 100), UInt8.ofNat (48 + n / 10 % 10), UInt8.ofNat (48 + n % 10)] := by
  rw [dig2 (by omega), dig2 (by omega), dig2 (by omega), dig1 (by omega)]
  rw [show (1000 + n) / 10 / 10 / 10 = 1 by omega, show (1000 + n) / 10 / 10 % 10 = n / 100 by omega, show (1000 + n) / 10 % 10 = n / 10 % 10 by omega, show (1000 + n) % 10 = n % 10 by omega]
  rfl
theorem pad_a (n : Nat) (h : n < 10) : pad3 n = [48, 48] ++ Lib.decDigits n := by
  unfold pad3
  rw [dig_1000 n (by omega), dig1 h, show n / 100 = 0 by omega, show n / 10 % 10 = 0 by omega, show n % 10 = n by omega]
  rfl
theorem pad_b (n : Nat) (h : 10 ≤ n) (h' : n < 100) : pad3 n = [48] ++ Lib.decDigits n := by
  unfold pad3
  rw [dig_1000 n (by omega), dig2 (by omega), dig1 (u := n / 10) (by omega), show n / 100 = 0 by omega, show n / 10 % 10 = n / 10 by omega]
  rfl
theorem pad_c (n : Nat) (h : 100 ≤ n) (h' : n ≤ 999) : pad3 n = Lib.decDigits n := by
  unfold pad3
  rw [dig_1000 n h', dig2 (u := n) (by omega), dig2 (u := n / 10) (by omega), dig1 (u := n / 10 / 10) (by omega), show n / 10 / 10 = n / 100 by omega]
  rfl
theorem len_1000 (n : Nat) (h : n ≤ 999) : (Lib.decDigits (1000 + n)).length = 4 := by rw [dig_1000 n h]; rfl
/-! ### Values -/
/-- a result: a number's word, or none -/
def FV (r : Nat) (o : Option Nat) : Prop := r < 2 * SW ∧ match o with | some v => r = v | none => nanB r = true
theorem FV.num {r v : Nat} (h : FV r (some v)) : r = v := h.2
theorem FV.nan {r : Nat} (h : FV r none) : nanB r = true := h.2
theorem FV.same {r s : Nat} {o : Option Nat} (h : FV r o) (k : FV s o) : sameB r s = true := by
  unfold sameB
  apply decide_eq_true
  cases o with
  | none => rw [tk_nan h.nan, tk_nan k.nan]
  | some v => rw [h.num, k.num]
theorem FV.txt {r s : Nat} {o : Option Nat} (h : FV r o) (k : FV s o) : txt r = txt s := by
  cases o with
  | none => unfold YtmahjlmblgboaaaDoor.txt; rw [if_pos h.nan, if_pos k.nan]
  | some v => rw [h.num, k.num]
/-- whole numbers and their quotients -/
theorem pl_rI (n : Nat) (h0 : n ≠ 0) (h : n < 9007199254740992) : mg (rI n) = n * 2 ^ (52 - n.log2) ∧ pl (rI n) = n.log2 + 1022 := by
  have hL : n.log2 < 53 := (Nat.log2_lt h0).2 (by rw [P53]; exact h)
  obtain ⟨c, hc⟩ : ∃ c, n.log2 + c = 52 := ⟨52 - n.log2, by omega⟩
  have l1 : B ≤ n * 2 ^ c := by
    have := Nat.mul_le_mul_right (2 ^ c) (Nat.log2_self_le h0)
    rw [← Nat.pow_add, hc, ← B_pow] at this; exact this
  have l2 : n * 2 ^ c < 2 * B := by
    have : n * 2 ^ c < 2 ^ (n.log2 + 1) * 2 ^ c := Nat.mul_lt_mul_of_pos_right Nat.lt_log2_self (Nat.two_pow_pos c)
    rw [← Nat.pow_add, show n.log2 + 1 + c = 52 + 1 by omega, Nat.pow_succ, ← B_pow] at this
    omega
  obtain ⟨f, hf⟩ : ∃ f, n * 2 ^ c = B + f := ⟨n * 2 ^ c - B, by omega⟩
  have hfB : f < B := by omega
  obtain ⟨q, hq⟩ : ∃ q, n.log2 + 1022 = q := ⟨_, rfl⟩
  have e : Mv ((q + 1) * B + f) = n * U := by
    rw [Mv_at q f hfB, ← hf, Nat.mul_assoc, ← Nat.pow_add, U_eq (show c + q = 1074 by omega)]
  have hv := rI_val n h
  have er : rI n = (q + 1) * B + f := by
    rcases Nat.lt_trichotomy (rI n) ((q + 1) * B + f) with d | d | d
    · have := Mv_lt d; rw [hv.1, e] at this; omega
    · exact d
    · have := Mv_lt d; rw [hv.1, e] at this; omega
  have hge : B ≤ (q + 1) * B + f := by rw [Nat.add_mul, Nat.one_mul]; generalize q * B = X; omega
  have e1 : ((q + 1) * B + f) / B = q + 1 := by rw [Nat.mul_comm, Nat.mul_add_div B_pos, Nat.div_eq_of_lt hfB, Nat.add_zero]
  have e2 : ((q + 1) * B + f) % B = f := by rw [Nat.mul_comm, Nat.mul_add_mod, Nat.mod_eq_of_lt hfB]
  rw [er, show 52 - n.log2 = c by omega]
  unfold mg pl
  rw [if_neg (Nat.not_lt.2 hge), e1, e2, hf]
  exact ⟨rfl, by omega⟩
theorem log2_mant {n c : Nat} (h0 : n ≠ 0) (hc : n.log2 + c = 52) : (n * 2 ^ c).log2 = 52 := by rw [log2_scale n c h0, hc]
theorem div_int (n k : Nat) (hk : 1 ≤ k) (hk' : k ≤ 16) (hn : n ≤ 1073741824) : Ieee.double.div (wI (n * k)) (wI k) = some (wI n) := by
  have hnk : n * k ≤ 1073741824 * 16 := Nat.mul_le_mul hn hk'
  have k0 : k ≠ 0 := by omega
  have hv1 := rI_val (n * k) (by omega)
  have hv2 := rI_val k (by omega)
  have s1 := sg_wI (n * k) (by omega)
  have s2 := sg_wI k (by omega)
  have r1 := rg_wI (n * k) (by omega)
  have r2 := rg_wI k (by omega)
  obtain ⟨pm, pp⟩ := pl_rI k k0 (by omega)
  have hl2 : k.log2 ≤ 4 := by
    have : k.log2 < 5 := (Nat.log2_lt k0).2 (by omega)
    omega
  obtain ⟨c2, hc2⟩ : ∃ c, k.log2 + c = 52 := ⟨52 - k.log2, by omega⟩
  rw [show 52 - k.log2 = c2 by omega] at pm
  have m0 : k * 2 ^ c2 ≠ 0 := Nat.mul_ne_zero k0 (Nat.pos_iff_ne_zero.1 (Nat.two_pow_pos c2))
  have g2 := log2_mant k0 hc2
  unfold Ieee.Format.div
  rw [read_num _ (by rw [r1]; exact hv1.2), read_num _ (by rw [r2]; exact hv2.2), s1, s2, r1, r2, pm, pp]
  unfold Ieee.Datum.quotient
  dsimp only
  rw [if_neg m0, Option.map_some, d_frac, g2, Bool.xor_self, Nat.shiftLeft_eq]
  by_cases n0 : n = 0
  · subst n0
    rw [Nat.zero_mul]
    have e1 : mg (rI 0) = 0 := by decide +kernel
    have e2 : pl (rI 0) = 0 := by decide +kernel
    rw [e1, e2, Nat.zero_mul, Nat.zero_div, Nat.zero_mod]
    have hw : ∀ p : Int, Ieee.double.write (.number false 0 p) = wI 0 := fun p => by
      rw [write_num false 0 p (-1074 - p).toNat (by omega), Nat.zero_mul]
      unfold wI rI rk
      rw [Nat.zero_mul, if_pos rfl, if_pos rfl]
    exact congrArg some (hw _)
  · have nk0 : n * k ≠ 0 := Nat.mul_ne_zero n0 k0
    obtain ⟨qm, qp⟩ := pl_rI (n * k) nk0 (by omega)
    have hl1 : (n * k).log2 ≤ 34 := by
      have : (n * k).log2 < 35 := (Nat.log2_lt nk0).2 (by omega)
      omega
    obtain ⟨c1, hc1⟩ : ∃ c, (n * k).log2 + c = 52 := ⟨52 - (n * k).log2, by omega⟩
    rw [show 52 - (n * k).log2 = c1 by omega] at qm
    have g1 := log2_mant nk0 hc1
    rw [qm, qp, g1]
    have ed : n * k * 2 ^ c1 * 2 ^ (52 + 2 + 52 - 52) = n * 2 ^ (c1 + 54 - c2) * (k * 2 ^ c2) := by
      have e : 2 ^ c1 * 2 ^ 54 = 2 ^ (c1 + 54 - c2) * 2 ^ c2 := by rw [← Nat.pow_add, ← Nat.pow_add]; congr 1; omega
      show n * k * 2 ^ c1 * 2 ^ 54 = _
      generalize 2 ^ (c1 + 54 - c2) = X at *
      generalize 2 ^ c2 = Y at *
      generalize 2 ^ c1 = Z at *
      generalize (2 : Nat) ^ 54 = W at *
      calc n * k * Z * W = n * k * (Z * W) := by rw [Nat.mul_assoc]
        _ = n * k * (X * Y) := by rw [e]
        _ = n * X * (k * Y) := by simp only [Nat.mul_assoc, Nat.mul_left_comm]
    rw [ed, Nat.mul_div_cancel _ (Nat.pos_iff_ne_zero.2 m0), Nat.mul_mod_left]
    have ep : (-1074 + (((n * k).log2 + 1022 : Nat) : Int) - (-1074 + ((k.log2 + 1022 : Nat) : Int)) - ((52 + 2 + 52 - 52 : Nat) : Int) - 1) = ((n * k).log2 : Int) - k.log2 - 55 := by omega
    rw [ep, show (2 * (n * 2 ^ (c1 + 54 - c2)) + (0 != 0).toNat) = n * 2 ^ (c1 + 55 - c2) by
      rw [show c1 + 55 - c2 = (c1 + 54 - c2) + 1 by omega, Nat.pow_succ]
      show 2 * (n * 2 ^ (c1 + 54 - c2)) + 0 = _
      generalize 2 ^ (c1 + 54 - c2) = X
      rw [Nat.add_zero, Nat.mul_comm X 2, Nat.mul_left_comm]]
    rw [write_num false _ _ 0 (by omega), Nat.mul_assoc, ← Nat.pow_add, U_eq (by omega)]
    rfl
end Go.Proofs.YtmahjlmblgboaaaDoor
