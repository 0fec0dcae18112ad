/- What the body-less functions of math and the operations on doubles give here. No conditions. -/
import Derived.Test.YtmahjlmblgboaaaDoorRows
import Derived.Test.YtmahjlmblgboaaaDoorF2
import Derived.WalkKit
import Derived.ProofKit
import Derived.WalkLawsBesides
import Derived.Laws.Externs
import Derived.Laws.Bits64
import Derived.Lib.Hide
import Derived.Below
import Derived.Outline
namespace Go.Proofs.YtmahjlmblgboaaaDoor
open Go.RowKit
set_option linter.unusedVariables false

theorem fmt64 : FloatKind.f64.format = Ieee.double := rfl
theorem call35 (b : Nat) (w : World) : (callFunc 35 #[.float .f64 b]).run Tryd.prog w = .ok (.value (.int .u64 b)) w := by
  rw [run_callFunc_extern Tryd.func35 (by kernel_rfl) (by kernel_rfl) (by kernel_rfl) (e := Extern.MathFloatBits.float64bits) (by kernel_rfl)]
  rfl
theorem call36 (n : Int) (w : World) : (callFunc 36 #[.int .u64 n]).run Tryd.prog w = .ok (.value (.float .f64 n.toNat)) w := by
  rw [run_callFunc_extern Tryd.func36 (by kernel_rfl) (by kernel_rfl) (by kernel_rfl) (e := Extern.MathFloatBits.float64frombits) (by kernel_rfl)]
  rfl
theorem floor_at (x : Nat) : ∃ f : Bool → Nat → Sem Value, Extern.MathFloor.toIntegral "math.archFloor" .down #[.float .f64 x] = (match FloatKind.f64.decode x with | .nan s t => f s t | d => pure (.float .f64 (FloatKind.f64.encode (d.integral .down)))) := ⟨_, rfl⟩
theorem floor_sem (x : Nat) (hn : (FloatKind.f64.decode x).isNaN = false) : Extern.MathFloor.toIntegral "math.archFloor" .down #[.float .f64 x] = pure (.float .f64 (FloatKind.f64.encode ((FloatKind.f64.decode x).integral .down))) := by
  obtain ⟨f, hf⟩ := floor_at x
  rw [hf]
  generalize FloatKind.f64.decode x = d at *
  cases d with
  | nan _ _ => cases hn
  | infinity _ => rfl
  | number _ _ _ => rfl
theorem call37 (x : Nat) (hs : sg x = false) (h : rg x < I) (w : World) : (callFunc 37 #[.float .f64 x]).run Tryd.prog w = .ok (.value (.float .f64 (wI (Mv (rg x) / U)))) w := by
  rw [run_callFunc_extern Tryd.func37 (by kernel_rfl) (by kernel_rfl) (by kernel_rfl) (e := Extern.MathFloor.toIntegral "math.archFloor" .down) (by kernel_rfl)]
  rw [← floor_val x hs h, floor_sem x (by rw [show FloatKind.f64.decode x = _ from read_num x h]; rfl)]
  rfl
/-- the word of a whole number, as the conversion gives it -/
theorem conv_wd (n : Int) : floatOfInt .f64 n = wd (decide (n < 0)) (rI n.natAbs) := by
  show Ieee.double.write (.number (decide (n < 0)) n.natAbs 0) = _
  rw [write_num _ _ 0 0 (by omega), U_eq (show ((0 : Int) + 1074 + ((0 : Nat) : Int)).toNat = 1074 by omega)]
  rfl
theorem conv_nat (n : Nat) : floatOfInt .f64 (n : Int) = wI n := by
  rw [conv_wd, show decide ((n : Int) < 0) = false from decide_eq_false (by omega)]
  rfl
/-- what the tape gives where there is no number -/
def nanOf (x y : Nat) (w : World) : Nat := (Question.nanBits .f64 x y).cut (w.tape w.drawn (.nanBits .f64 x y))
theorem nanOf_nan (x y : Nat) (w : World) : nanB (nanOf x y w) = true := by
  unfold nanOf nanB rg
  generalize w.tape w.drawn (.nanBits .f64 x y) = t
  show decide (I < ((t % 2) * 2 ^ 63 + 0x7ff0000000000000 + 1 + (t / 2) % (2 ^ 52 - 1)) % SW) = true
  have h1 : (t / 2) % (2 ^ 52 - 1) < 2 ^ 52 - 1 := Nat.mod_lt _ (by decide)
  have h2 : t % 2 < 2 := Nat.mod_lt _ (by decide)
  generalize (t / 2) % (2 ^ 52 - 1) = a at *
  generalize t % 2 = b at *
  apply decide_eq_true
  unfold I SW
  have : b = 0 ∨ b = 1 := by omega
  rcases this with rfl | rfl <;> omega
theorem run_quo_nan (t : TypeId) (x y : Nat) (h : Ieee.double.div x y = none) (w : World) : (binOp .quo t (.float .f64 x) (.float .f64 y)).run Tryd.prog w = .ok (.float .f64 (nanOf x y w)) w.drew := by
  have h' : FloatKind.f64.format.div x y = none := h
  simp [binOp, Op.floatArith, h', nanOf, Question.forced]
theorem run_add_nan (t : TypeId) (x y : Nat) (h : Ieee.double.add x y = none) (w : World) : (binOp .add t (.float .f64 x) (.float .f64 y)).run Tryd.prog w = .ok (.float .f64 (nanOf x y w)) w.drew := by
  have h' : FloatKind.f64.format.add x y = none := h
  simp [binOp, Op.floatArith, h', nanOf, Question.forced]
/-! ### Bits -/
theorem bv_of (x : Nat) (h : x < 18446744073709551616) : (BitVec.ofInt 64 (x : Int)).toNat = x := by
  rw [BitVec.ofInt_natCast, BitVec.toNat_ofNat]; exact Nat.mod_eq_of_lt (by omega)
theorem abs_bits (x : Nat) (h : x < 18446744073709551616) : bits .andNot .u64 (x : Int) 9223372036854775808 = ((rg x : Nat) : Int) := by
  show IntKind.u64.wrap ((BitVec.ofInt 64 (x : Int) &&& ~~~ BitVec.ofInt 64 9223372036854775808).toNat : Int) = _
  have e : BitVec.ofInt 64 (x : Int) = BitVec.ofNat 64 x := BitVec.ofInt_natCast ..
  have e2 : (~~~ BitVec.ofInt 64 9223372036854775808) = BitVec.ofNat 64 (2 ^ 63 - 1) := by decide +kernel
  rw [e, e2, BitVec.toNat_and, BitVec.toNat_ofNat, BitVec.toNat_ofNat, Nat.mod_eq_of_lt (show x < 2 ^ 64 by omega), Nat.mod_eq_of_lt (show 2 ^ 63 - 1 < 2 ^ 64 by decide), Nat.and_two_pow_sub_one_eq_mod, IntKind.wrap_u64]
  have : x % 2 ^ 63 = rg x := rfl
  have l := rg_lt x
  unfold SW at l
  rw [this]
  omega
theorem neg_bits (x : Nat) (h : x < 18446744073709551616) : Op.negFloat .f64 x = wd (!sg x) (rg x) := by
  have e : Op.negFloat .f64 x = x ^^^ 2 ^ 63 := rfl
  rw [e]
  have hd := Nat.div_add_mod x SW
  have q : x / SW = 0 ∨ x / SW = 1 := by
    have : x / SW < 2 := (Nat.div_lt_iff_lt_mul (by decide)).2 h
    generalize x / SW = y at this
    omega
  have l := rg_lt x
  have tb : ∀ i, (x ^^^ 2 ^ 63).testBit i = (x.testBit i ^^ decide (63 = i)) := fun i => by rw [Nat.testBit_xor, Nat.testBit_two_pow]
  have hx : x = wd (sg x) (rg x) := (wd_of x h).symm
  have key : ∀ r, r < 2 ^ 63 → (2 ^ 63 + r) = 2 ^ 63 ^^^ r := fun r hr => by
    apply Nat.eq_of_testBit_eq
    intro i
    rw [Nat.testBit_xor, Nat.testBit_two_pow]
    by_cases hi : 63 = i
    · subst hi
      rw [Nat.testBit_two_pow_add_eq, Nat.testBit_lt_two_pow hr]; rfl
    · rw [show decide (63 = i) = false from decide_eq_false hi, Bool.false_xor]
      rcases Nat.lt_or_ge i 63 with c | c
      · exact Nat.testBit_two_pow_add_gt c r
      · have a : 2 ^ 63 + r < 2 ^ i := Nat.lt_of_lt_of_le (show 2 ^ 63 + r < 2 ^ 64 by omega) (Nat.pow_le_pow_right (by decide) (by omega))
        have b : r < 2 ^ i := by omega
        rw [Nat.testBit_lt_two_pow a, Nat.testBit_lt_two_pow b]
  have l' : rg x < 2 ^ 63 := l
  cases hs : sg x with
  | false =>
    rw [hs] at hx
    have e1 : x = rg x := hx
    show x ^^^ 2 ^ 63 = wd true (rg x)
    rw [← e1]
    show x ^^^ 2 ^ 63 = 2 ^ 63 + x
    rw [key x (by rw [e1]; exact l'), Nat.xor_comm]
  | true =>
    rw [hs] at hx
    have e1 : x = 2 ^ 63 + rg x := hx
    show x ^^^ 2 ^ 63 = rg x
    generalize rg x = r at *
    rw [e1, key r l', Nat.xor_comm (2 ^ 63) r, Nat.xor_assoc, Nat.xor_self, Nat.xor_zero]
theorem sign_i64 (x : Nat) (h : x < 18446744073709551616) : decide (IntKind.i64.wrap (x : Int) < 0) = sg x := by
  have hd := Nat.div_add_mod x SW
  have q : x / SW < 2 := (Nat.div_lt_iff_lt_mul (by decide)).2 h
  have l := rg_lt x
  unfold sg
  have e : IntKind.i64.wrap (x : Int) = if x < 9223372036854775808 then (x : Int) else (x : Int) - 18446744073709551616 := by
    simp [IntKind.wrap, IntKind.bits, IntKind.signed]
    split <;> split <;> omega
  rw [e]
  unfold SW
  by_cases c : x < 9223372036854775808
  · rw [if_pos c, Nat.div_eq_of_lt c]; simp
  · rw [if_neg c, show x / 9223372036854775808 = 1 by omega]; simp; omega
end Go.Proofs.YtmahjlmblgboaaaDoor
