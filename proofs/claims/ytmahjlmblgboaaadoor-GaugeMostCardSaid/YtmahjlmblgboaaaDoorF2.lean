/- Plain facts on double arithmetic: what results are, whole numbers, a number's whole and its thousandths. No conditions. -/
import Derived.Test.YtmahjlmblgboaaaDoorF1
namespace Go.Proofs.YtmahjlmblgboaaaDoor
open Ieee
set_option linter.unusedVariables false

/-- a word that is a number or an infinity -/
def ok (x : Nat) : Prop := rg x ≤ I ∧ x < 2 * SW
theorem ok_wd (s : Bool) {r : Nat} (h : r ≤ I) : ok (wd s r) := by
  have := I_lt
  refine ⟨by rw [rg_wd s (Nat.lt_of_le_of_lt h this)]; exact h, ?_⟩
  unfold wd
  generalize SW = X at *
  cases s <;> simp <;> omega
theorem write_num (s : Bool) (m : Nat) (p : Int) (k : Nat) (h : -1074 - (k : Int) ≤ p) : double.write (.number s m p) = wd s (rk (m * 2 ^ (p + 1074 + k).toNat) k) := by
  show double.nearest s m p = _
  rw [nearest_rk s m p k h, word_wd]
theorem write_inf (s : Bool) : double.write (.infinity s) = wd s I := by
  show double.word s double.infRung = _
  rw [d_inf, word_wd]
theorem write_ok (d : Datum) (h : d.isNaN = false) : ok (double.write d) := by
  cases d with
  | number s m p =>
    rw [write_num s m p (-1074 - p).toNat (by omega)]
    exact ok_wd s (rk_le _ _)
  | infinity s => rw [write_inf]; exact ok_wd s (Nat.le_refl _)
  | nan s f => cases h
theorem sum_nn (a b d : Datum) (h : a.sum b = some d) : d.isNaN = false := by
  cases a <;> cases b <;> simp [Datum.sum] at h
  all_goals first | (obtain ⟨_, rfl⟩ := h; rfl) | (subst h; rfl)
theorem product_nn (a b d : Datum) (h : a.product b = some d) : d.isNaN = false := by
  cases a <;> cases b <;> simp [Datum.product] at h
  all_goals first | (obtain ⟨_, rfl⟩ := h; rfl) | (subst h; rfl)
theorem quotient_nn (n : Nat) (a b d : Datum) (h : a.quotient n b = some d) : d.isNaN = false := by
  cases a with
  | nan _ _ => cases b <;> simp [Datum.quotient] at h
  | infinity s => cases b <;> simp [Datum.quotient] at h; subst h; rfl
  | number s m i =>
    cases b with
    | nan _ _ => simp [Datum.quotient] at h
    | infinity _ => simp [Datum.quotient] at h; subst h; rfl
    | number t u j =>
      unfold Datum.quotient at h
      dsimp only at h
      split at h
      · split at h
        · cases h
        · cases h; rfl
      · cases h; rfl
theorem map_ok {o : Option Datum} {r : Nat} (hn : ∀ d, o = some d → d.isNaN = false) (h : o.map double.write = some r) : ok r := by
  cases o with
  | none => cases h
  | some d => cases h; exact write_ok d (hn d rfl)
theorem add_ok {x y r : Nat} (h : double.add x y = some r) : ok r := map_ok (fun d => sum_nn _ _ d) h
theorem sub_ok {x y r : Nat} (h : double.sub x y = some r) : ok r := map_ok (fun d => sum_nn _ _ d) h
theorem mul_ok {x y r : Nat} (h : double.mul x y = some r) : ok r := map_ok (fun d => product_nn _ _ d) h
theorem div_ok {x y r : Nat} (h : double.div x y = some r) : ok r := map_ok (fun d => quotient_nn _ _ _ d) h
theorem add_nan {x y : Nat} (h : I < rg x ∨ I < rg y) : double.add x y = none := by
  unfold Format.add
  rcases h with h | h
  · rw [read_nan x h]; rfl
  · rw [read_nan y h]; cases double.read x <;> rfl
theorem div_nan {x y : Nat} (h : I < rg x ∨ I < rg y) : double.div x y = none := by
  unfold Format.div
  rcases h with h | h
  · rw [read_nan x h]; rfl
  · rw [read_nan y h]; cases double.read x <;> rfl

/-! ### Whole numbers -/
/-- the worth of one -/
def U : Nat := (2 ^ 179) ^ 6
theorem U_eq {e : Nat} (h : e = 1074) : 2 ^ e = U := by
  unfold U
  rw [← Nat.pow_mul]
  congr 1
theorem U_pos : 0 < U := Nat.pow_pos (Nat.two_pow_pos 179)
theorem U_split {a b : Nat} (h : a + b = 1074) : U = 2 ^ a * 2 ^ b := by rw [← Nat.pow_add]; exact (U_eq h).symm
/-- two powers of two -/
def H20 : Nat := (2 ^ 204) ^ 5
theorem H20_eq {e : Nat} (h : e = 1020) : 2 ^ e = H20 := by
  unfold H20
  rw [← Nat.pow_mul]
  congr 1
theorem H20_le {e : Nat} (h : e ≤ 1020) : 2 ^ e ≤ H20 := by
  obtain ⟨d, hd⟩ : ∃ d, d = 1020 := ⟨_, rfl⟩
  rw [← H20_eq hd]; exact Nat.pow_le_pow_right (by decide) (by omega)
theorem H21_le {e : Nat} (h : 1021 ≤ e) : 2 * H20 ≤ 2 ^ e := by
  obtain ⟨d, rfl⟩ : ∃ d, e = d + 1 := ⟨e - 1, by omega⟩
  rw [Nat.pow_succ, Nat.mul_comm]
  refine Nat.mul_le_mul_right 2 ?_
  obtain ⟨k, hk⟩ : ∃ k, k = 1020 := ⟨_, rfl⟩
  rw [← H20_eq hk]
  exact Nat.pow_le_pow_right (by decide) (by omega)
/-- the rung of a whole number -/
def rI (n : Nat) : Nat := rk (n * U) 0
theorem P53 : (2 : Nat) ^ 53 = 9007199254740992 := by decide +kernel
theorem rI_val (n : Nat) (h : n < 9007199254740992) : Mv (rI n) = n * U ∧ rI n < I := by
  by_cases h0 : n = 0
  · subst h0; exact ⟨by unfold rI rk; rw [Nat.zero_mul, if_pos rfl, Mv_zero], by unfold rI rk; rw [Nat.zero_mul, if_pos rfl]; decide⟩
  have hL : n.log2 < 53 := (Nat.log2_lt h0).2 (by rw [P53]; exact h)
  obtain ⟨c, hc⟩ : ∃ c, n.log2 + c = 52 := ⟨52 - n.log2, by omega⟩
  have l1 : B ≤ n * 2 ^ c := by
    have := Nat.mul_le_mul_right (2 ^ c) (Nat.log2_self_le h0)
    rw [← Nat.pow_add, hc, ← B_pow] at this; exact this
  have l2 : n * 2 ^ c < 2 * B := by
    have : n * 2 ^ c < 2 ^ (n.log2 + 1) * 2 ^ c := Nat.mul_lt_mul_of_pos_right Nat.lt_log2_self (Nat.two_pow_pos c)
    rw [← Nat.pow_add, show n.log2 + 1 + c = 52 + 1 by omega, Nat.pow_succ, ← B_pow] at this
    omega
  obtain ⟨f, hf⟩ : ∃ f, n * 2 ^ c = B + f := ⟨n * 2 ^ c - B, by omega⟩
  have hfB : f < B := by omega
  obtain ⟨q, hq⟩ : ∃ q, n.log2 + 1022 = q := ⟨_, rfl⟩
  have e : Mv ((q + 1) * B + f) = n * U := by
    rw [Mv_at q f hfB, ← hf, Nat.mul_assoc, ← Nat.pow_add, U_eq (show c + q = 1074 by omega)]
  have hq2 : (q + 1) * B ≤ 1075 * B := Nat.mul_le_mul_right B (by omega)
  have hI : (q + 1) * B + f < I := by
    have : 1076 * B < I := by decide +kernel
    have e' : 1076 * B = 1075 * B + B := by rw [← Nat.succ_mul]
    rw [e'] at this
    exact Nat.lt_trans (Nat.add_lt_add_of_le_of_lt hq2 hfB) this
  have er : rI n = (q + 1) * B + f := by unfold rI; rw [← e]; exact rk_Mv _ (Nat.le_of_lt hI)
  rw [er]
  exact ⟨e, hI⟩
/-- the word of a whole number -/
def wI (n : Nat) : Nat := wd false (rI n)
theorem rg_wI (n : Nat) (h : n < 9007199254740992) : rg (wI n) = rI n := rg_wd false (Nat.lt_trans (rI_val n h).2 I_lt)
theorem sg_wI (n : Nat) (h : n < 9007199254740992) : sg (wI n) = false := sg_wd false (Nat.lt_trans (rI_val n h).2 I_lt)
theorem rk_units (m p : Nat) : rk (m * 2 ^ p) 0 = rk (m * 2 ^ p) 0 := rfl
/-- a sum of whole numbers -/
theorem base_units (r : Nat) (b : Int) (hb : b ≤ -1074 + (pl r : Int)) (h0 : -1074 ≤ b) : mg r * 2 ^ (-1074 + (pl r : Int) - b).toNat * 2 ^ (b + 1074).toNat = Mv r := by
  rw [Nat.mul_assoc, ← Nat.pow_add, show (-1074 + (pl r : Int) - b).toNat + (b + 1074).toNat = pl r by omega]; rfl
theorem add_pos (r t : Nat) (hr : r < I) (ht : t < I) : double.add (wd false r) (wd false t) = some (wd false (rk (Mv r + Mv t) 0)) := by
  have hI := I_lt
  have e1 := rg_wd false (Nat.lt_trans hr hI)
  have e2 := rg_wd false (Nat.lt_trans ht hI)
  unfold Format.add
  rw [read_num (wd false r) (by rw [e1]; exact hr), read_num (wd false t) (by rw [e2]; exact ht), sg_wd false (Nat.lt_trans hr hI), sg_wd false (Nat.lt_trans ht hI), e1, e2]
  obtain ⟨b, hb⟩ : ∃ b, min (-1074 + (pl r : Int)) (-1074 + (pl t : Int)) = b := ⟨_, rfl⟩
  unfold Datum.sum
  dsimp only
  rw [hb, signed_eq, signed_eq]
  simp only [Bool.false_eq_true, if_false]
  rw [Option.map_some]
  have hb0 : -1074 ≤ b := by omega
  have p1 := base_units r b (by omega) hb0
  have p2 := base_units t b (by omega) hb0
  have neg : (if ((mg r * 2 ^ (-1074 + (pl r : Int) - b).toNat : Nat) : Int) + ((mg t * 2 ^ (-1074 + (pl t : Int) - b).toNat : Nat) : Int) = 0 then (false && false) else decide (((mg r * 2 ^ (-1074 + (pl r : Int) - b).toNat : Nat) : Int) + ((mg t * 2 ^ (-1074 + (pl t : Int) - b).toNat : Nat) : Int) < 0)) = false := by
    split
    · rfl
    · exact decide_eq_false (by omega)
  rw [neg, write_num false _ b 0 (by omega), show (((mg r * 2 ^ (-1074 + (pl r : Int) - b).toNat : Nat) : Int) + ((mg t * 2 ^ (-1074 + (pl t : Int) - b).toNat : Nat) : Int)).natAbs = mg r * 2 ^ (-1074 + (pl r : Int) - b).toNat + mg t * 2 ^ (-1074 + (pl t : Int) - b).toNat by omega, Nat.add_mul, show (b + 1074 + ((0 : Nat) : Int)).toNat = (b + 1074).toNat by omega, p1, p2]
theorem add_int (a b : Nat) (h : a + b < 9007199254740992) : double.add (wI a) (wI b) = some (wI (a + b)) := by
  have ha := rI_val a (by omega)
  have hb := rI_val b (by omega)
  unfold wI
  rw [add_pos _ _ ha.2 hb.2, ha.1, hb.1, ← Nat.add_mul]
  rfl
/-- a number less a smaller one -/
theorem sub_pos (r t : Nat) (hr : r < I) (ht : t < I) (hle : Mv t ≤ Mv r) : double.sub (wd false r) (wd false t) = some (wd false (rk (Mv r - Mv t) 0)) := by
  have hI := I_lt
  have e1 := rg_wd false (Nat.lt_trans hr hI)
  have e2 := rg_wd false (Nat.lt_trans ht hI)
  unfold Format.sub
  rw [read_num (wd false r) (by rw [e1]; exact hr), read_num (wd false t) (by rw [e2]; exact ht), sg_wd false (Nat.lt_trans hr hI), sg_wd false (Nat.lt_trans ht hI), e1, e2]
  obtain ⟨b, hb⟩ : ∃ b, min (-1074 + (pl r : Int)) (-1074 + (pl t : Int)) = b := ⟨_, rfl⟩
  unfold Datum.opposite Datum.sum
  dsimp only
  rw [hb, signed_eq, signed_eq]
  simp only [Bool.false_eq_true, if_false, Bool.not_false, if_true]
  rw [Option.map_some]
  have hb0 : -1074 ≤ b := by omega
  have p1 := base_units r b (by omega) hb0
  have p2 := base_units t b (by omega) hb0
  generalize mg r * 2 ^ (-1074 + (pl r : Int) - b).toNat = X at *
  generalize mg t * 2 ^ (-1074 + (pl t : Int) - b).toNat = Y at *
  have hxy : Y ≤ X := by
    rw [← p1, ← p2] at hle
    exact Nat.le_of_mul_le_mul_right hle (Nat.two_pow_pos _)
  have neg : (if (X : Int) + -(Y : Int) = 0 then (false && true) else decide ((X : Int) + -(Y : Int) < 0)) = false := by
    split
    · rfl
    · exact decide_eq_false (by omega)
  rw [neg, write_num false _ b 0 (by omega), show ((X : Int) + -(Y : Int)).natAbs = X - Y by omega, Nat.sub_mul, show (b + 1074 + ((0 : Nat) : Int)).toNat = (b + 1074).toNat by omega, p1, p2]
/-- a thousand -/
def K1000 : Nat := 4652007308841189376
theorem mul_1000 (r : Nat) (hr : r < I) : double.mul (wd false r) K1000 = some (wd false (rk (Mv r * 1000) 0)) := by
  have hI := I_lt
  have e1 := rg_wd false (Nat.lt_trans hr hI)
  have ek : double.read K1000 = .number false (1000 * 2 ^ 43) (-43) := by decide +kernel
  unfold Format.mul
  rw [read_num (wd false r) (by rw [e1]; exact hr), sg_wd false (Nat.lt_trans hr hI), e1, ek]
  unfold Datum.product
  dsimp only
  rw [Option.map_some, Bool.xor_self, write_num false _ _ 43 (by omega), show (-1074 + (pl r : Int) + -43 + 1074 + ((43 : Nat) : Int)).toNat = pl r by omega]
  have : mg r * (1000 * 2 ^ 43) * 2 ^ pl r = Mv r * 1000 * 2 ^ 43 := by
    unfold Mv
    generalize 2 ^ pl r = p
    generalize (2 : Nat) ^ 43 = q
    simp only [Nat.mul_assoc, Nat.mul_comm, Nat.mul_left_comm]
  rw [this]
  have := rk_scale (Mv r * 1000) 0 43
  rw [Nat.zero_add] at this
  rw [this]
/-! ### A number's whole and its thousandths -/
theorem integral_val (way : Toward) (hw : way = .down ∨ way = .zero) (r : Nat) : (Datum.number false (mg r) (-1074 + (pl r : Int))).integral way = .number false (Mv r / U) 0 := by
  unfold Datum.integral
  dsimp only
  rw [cut_floor way hw, Nat.shiftLeft_eq]
  congr 1
  rcases Nat.lt_or_ge (pl r) 1074 with c | c
  · rw [show (-1074 + (pl r : Int)).toNat = 0 by omega, show (- (-1074 + (pl r : Int))).toNat = 1074 - pl r by omega, Nat.pow_zero, Nat.mul_one]
    unfold Mv
    rw [U_split (show 1074 - pl r + pl r = 1074 by omega), Nat.mul_div_mul_right _ _ (Nat.two_pow_pos _)]
  · rw [show (-1074 + (pl r : Int)).toNat = pl r - 1074 by omega, show (- (-1074 + (pl r : Int))).toNat = 0 by omega, Nat.pow_zero, Nat.div_one]
    unfold Mv
    obtain ⟨e, he⟩ : ∃ e, e = 1074 := ⟨_, rfl⟩
    rw [show 2 ^ pl r = 2 ^ (pl r - 1074) * U by rw [← U_eq he, ← Nat.pow_add]; congr 1; omega, ← Nat.mul_assoc, Nat.mul_div_cancel _ U_pos]
theorem toInt_val (x : Nat) (hs : sg x = false) (h : rg x < I) : (double.read x).toInt .zero = some ((Mv (rg x) / U : Nat) : Int) := by
  rw [read_num x h, hs]
  unfold Datum.toInt
  rw [integral_val .zero (.inr rfl)]
  dsimp only
  rw [signed_eq]; simp
theorem floor_val (x : Nat) (hs : sg x = false) (h : rg x < I) : double.write ((double.read x).integral .down) = wI (Mv (rg x) / U) := by
  rw [read_num x h, hs, integral_val .down (.inl rfl), write_num false _ 0 0 (by omega), U_eq (show ((0 : Int) + 1074 + ((0 : Nat) : Int)).toNat = 1074 by omega)]
  unfold wI rI
  rfl
/-- the greatest word below one -/
def P1 : Nat := 4607182418800017407
theorem P1_val : Mv P1 = U - 2 * H20 := by decide +kernel
theorem frac_le (r : Nat) : Mv r % U ≤ Mv P1 := by
  rw [P1_val]
  have hm : mg r < 2 * B := by
    unfold mg
    split
    · omega
    · have := Nat.mod_lt r B_pos; omega
  rcases Nat.lt_or_ge (pl r) 1021 with c | c
  · have a : Mv r < 2 * B * 2 ^ pl r := Nat.mul_lt_mul_of_pos_right hm (Nat.two_pow_pos _)
    have b : 2 ^ pl r ≤ H20 := H20_le (by omega)
    have c' := Nat.mul_le_mul_left (2 * B) b
    have d : 2 * B * H20 ≤ U - 2 * H20 := by decide +kernel
    exact Nat.le_trans (Nat.mod_le _ _) (Nat.le_trans (Nat.le_of_lt a) (Nat.le_trans c' d))
  · rcases Nat.lt_or_ge (pl r) 1074 with d | d
    · obtain ⟨k, hk⟩ : ∃ k, 1074 - pl r = k := ⟨_, rfl⟩
      have e : U = 2 ^ k * 2 ^ pl r := U_split (by omega)
      have e1 : Mv r % U = mg r % 2 ^ k * 2 ^ pl r := by rw [e]; exact Nat.mul_mod_mul_right _ _ _
      have lt : mg r % 2 ^ k < 2 ^ k := Nat.mod_lt _ (Nat.two_pow_pos k)
      have e2 : (mg r % 2 ^ k + 1) * 2 ^ pl r ≤ U := by rw [e]; exact Nat.mul_le_mul_right _ lt
      have e3 : 2 * H20 ≤ 2 ^ pl r := H21_le c
      rw [Nat.add_mul, Nat.one_mul] at e2
      rw [e1]
      generalize mg r % 2 ^ k * 2 ^ pl r = X at *
      generalize 2 ^ pl r = Y at *
      generalize H20 = Z at *
      generalize U = W at *
      omega
    · have e : Mv r = mg r * 2 ^ (pl r - 1074) * U := by
        obtain ⟨e, he⟩ : ∃ e, e = 1074 := ⟨_, rfl⟩
        unfold Mv
        rw [Nat.mul_assoc, ← U_eq he, ← Nat.pow_add]
        congr 2; omega
      rw [e, Nat.mul_mod_left]
      exact Nat.zero_le _
/-- the rung of what is left behind the whole, and of its thousandfold -/
def fr (r : Nat) : Nat := rk (Mv r % U) 0
def th (r : Nat) : Nat := rk (Mv (fr r) * 1000) 0
theorem P1_lt : P1 < I := by decide
theorem fr_le (r : Nat) : fr r ≤ P1 := by
  have := rk_mono 0 (frac_le r)
  rw [rk_Mv P1 (Nat.le_of_lt P1_lt)] at this
  exact this
theorem Mv_le {r t : Nat} (h : r ≤ t) : Mv r ≤ Mv t := by
  rcases Nat.lt_or_ge r t with c | c
  · exact Nat.le_of_lt (Mv_lt c)
  · have : r = t := by omega
    subst this; exact Nat.le_refl _
theorem th_le (r : Nat) : th r ≤ rk (Mv P1 * 1000) 0 := rk_mono 0 (Nat.mul_le_mul_right 1000 (Mv_le (fr_le r)))
theorem th_top : rk (Mv P1 * 1000) 0 < I ∧ Mv (rk (Mv P1 * 1000) 0) / U = 999 := by decide +kernel
theorem th_lt (r : Nat) : th r < I := Nat.lt_of_le_of_lt (th_le r) th_top.1
theorem th_999 (r : Nat) : Mv (th r) / U ≤ 999 := by
  have := Nat.div_le_div_right (c := U) (Mv_le (th_le r))
  rw [th_top.2] at this; exact this
/-- the whole of a number below 10 ^ 12 -/
def C12 : Nat := 4786511204640096256
theorem C12_val : Mv C12 = 1000000000000 * U ∧ C12 < I := by decide +kernel
theorem whole_lt (r : Nat) (h : r < C12) : Mv r / U < 1000000000000 := by
  rw [Nat.div_lt_iff_lt_mul U_pos, ← C12_val.1]; exact Mv_lt h
theorem sub_whole (r : Nat) (h : r < C12) : double.sub (wd false r) (wI (Mv r / U)) = some (wd false (fr r)) := by
  have hw := whole_lt r h
  have hv := rI_val (Mv r / U) (by omega)
  unfold wI
  rw [sub_pos r _ (Nat.lt_trans h C12_val.2) hv.2 (by rw [hv.1]; exact Nat.div_mul_le_self _ _), hv.1]
  have := Nat.div_add_mod (Mv r) U
  rw [Nat.mul_comm] at this
  have e : Mv r - Mv r / U * U = Mv r % U := by
    generalize Mv r / U * U = X at *
    generalize Mv r % U = Y at *
    generalize Mv r = Z at *
    omega
  rw [e]
  rfl
theorem mul_frac (r : Nat) : double.mul (wd false (fr r)) K1000 = some (wd false (th r)) := mul_1000 _ (Nat.lt_of_le_of_lt (fr_le r) P1_lt)
end Go.Proofs.YtmahjlmblgboaaaDoor
