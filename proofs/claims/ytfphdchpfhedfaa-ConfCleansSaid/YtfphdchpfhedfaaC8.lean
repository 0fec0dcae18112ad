/- Contracts of alive, Like. Conditions: the slices read as lists. -/
import Derived.Test.YtfphdchpfhedfaaC4
import Derived.Test.YtfphdchpfhedfaaC7
import Derived.RegionTactic
import Derived.ChangeAlike
import Derived.Deep.QuietTactic
import Derived.BigQuiet
namespace Go.Proofs.Ytfphdchpfhedfaa
open Go.ChangeShapes Go.WideShapes Go.ChangeAt Go.RowKit
set_option linter.unusedVariables false
/-- are two shapes the same? -/
def likeP (mx wdx rox qux stx slx sex wax my wdy roy quy sty sly sey way : Int) (tbx tby : Bool) (Lx Ly Tx Ty : List Int) : Prop :=
  (mx = my ∧ wdx = wdy ∧ rox = roy ∧ qux = quy ∧ stx = sty ∧ slx = sly ∧ sex = sey ∧ wax = way ∧ tbx = tby ∧ Lx.length = Ly.length ∧ Tx.length = Ty.length) ∧ Lx = Ly ∧ Tx = Ty
theorem take_eq (L M : List Int) (k : Nat) (h : L.take k = M.take k) (hl : k < L.length) (hm : k < M.length) (e : L.getD k 0 = M.getD k 0) : L.take (k + 1) = M.take (k + 1) := by
  rw [List.take_succ_eq_append_getElem hl, List.take_succ_eq_append_getElem hm, h]
  simp [List.getD_eq_getElem?_getD, hl, hm] at e
  rw [e]
set_option maxHeartbeats 8000000 in
set_option maxRecDepth 100000 in
theorem like_head (mx wdx rox qux stx slx sex wax my wdy roy quy sty sly sey way : Int) (tbx tby : Bool) (Ax Ay Bx By : Option Addr) (nx ny n2x n2y Cx Cy Dx Dy : Nat) (w : World) (bx : nx ≤ 9223372036854775807) (by_ : ny ≤ 9223372036854775807) (b2x : n2x ≤ 9223372036854775807) (b2y : n2y ≤ 9223372036854775807)
    (hh : ¬ (mx = my ∧ wdx = wdy ∧ rox = roy ∧ qux = quy ∧ stx = sty ∧ slx = sly ∧ sex = sey ∧ wax = way ∧ tbx = tby ∧ nx = ny ∧ n2x = n2y)) :
    Calls Try.prog 11 #[.agg #[.int .i64 mx, .int .i64 wdx, .int .i64 rox, .int .i64 qux, .int .i64 stx, .int .i64 slx, .int .i64 sex, .int .i64 wax, .slice Ax nx Cx, .bool tbx, .slice Bx n2x Dx], .agg #[.int .i64 my, .int .i64 wdy, .int .i64 roy, .int .i64 quy, .int .i64 sty, .int .i64 sly, .int .i64 sey, .int .i64 way, .slice Ay ny Cy, .bool tby, .slice By n2y Dy]] w fun e w' => e = .returned (.bool false) ∧ Below w.heap.size w w' := by
  by_cases f0 : mx = my
  rotate_left
  · have e0 : (mx == my) = false := by rw [beq_eq_false_iff_ne]; exact f0
    have e0' : (mx != my) = true := by rw [bne_iff_ne]; exact f0
    clear f0 hh
    go_enter Try.func11, Try.ntmps11
    go_wp2
    go_ret
    exact ⟨rfl, by go_grown⟩
  subst f0
  by_cases f1 : wdx = wdy
  rotate_left
  · have e1 : (wdx == wdy) = false := by rw [beq_eq_false_iff_ne]; exact f1
    have e1' : (wdx != wdy) = true := by rw [bne_iff_ne]; exact f1
    clear f1 hh
    go_enter Try.func11, Try.ntmps11
    go_wp2
    go_ret
    exact ⟨rfl, by go_grown⟩
  subst f1
  by_cases f2 : rox = roy
  rotate_left
  · have e2 : (rox == roy) = false := by rw [beq_eq_false_iff_ne]; exact f2
    have e2' : (rox != roy) = true := by rw [bne_iff_ne]; exact f2
    clear f2 hh
    go_enter Try.func11, Try.ntmps11
    go_wp2
    go_ret
    exact ⟨rfl, by go_grown⟩
  subst f2
  by_cases f3 : qux = quy
  rotate_left
  · have e3 : (qux == quy) = false := by rw [beq_eq_false_iff_ne]; exact f3
    have e3' : (qux != quy) = true := by rw [bne_iff_ne]; exact f3
    clear f3 hh
    go_enter Try.func11, Try.ntmps11
    go_wp2
    go_ret
    exact ⟨rfl, by go_grown⟩
  subst f3
  by_cases f4 : stx = sty
  rotate_left
  · have e4 : (stx == sty) = false := by rw [beq_eq_false_iff_ne]; exact f4
    have e4' : (stx != sty) = true := by rw [bne_iff_ne]; exact f4
    clear f4 hh
    go_enter Try.func11, Try.ntmps11
    go_wp2
    go_ret
    exact ⟨rfl, by go_grown⟩
  subst f4
  by_cases f5 : slx = sly
  rotate_left
  · have e5 : (slx == sly) = false := by rw [beq_eq_false_iff_ne]; exact f5
    have e5' : (slx != sly) = true := by rw [bne_iff_ne]; exact f5
    clear f5 hh
    go_enter Try.func11, Try.ntmps11
    go_wp2
    go_ret
    exact ⟨rfl, by go_grown⟩
  subst f5
  by_cases f6 : sex = sey
  rotate_left
  · have e6 : (sex == sey) = false := by rw [beq_eq_false_iff_ne]; exact f6
    have e6' : (sex != sey) = true := by rw [bne_iff_ne]; exact f6
    clear f6 hh
    go_enter Try.func11, Try.ntmps11
    go_wp2
    go_ret
    exact ⟨rfl, by go_grown⟩
  subst f6
  by_cases f7 : wax = way
  rotate_left
  · have e7 : (wax == way) = false := by rw [beq_eq_false_iff_ne]; exact f7
    have e7' : (wax != way) = true := by rw [bne_iff_ne]; exact f7
    clear f7 hh
    go_enter Try.func11, Try.ntmps11
    go_wp2
    go_ret
    exact ⟨rfl, by go_grown⟩
  subst f7
  by_cases f8 : tbx = tby
  rotate_left
  · have e8 : (tbx == tby) = false := by rw [beq_eq_false_iff_ne]; exact f8
    have e8' : (tbx != tby) = true := by rw [bne_iff_ne]; exact f8
    clear f8 hh
    go_enter Try.func11, Try.ntmps11
    go_wp2
    go_ret
    exact ⟨rfl, by go_grown⟩
  subst f8
  by_cases f9 : nx = ny
  rotate_left
  · have e9 : ((nx : Int) == (ny : Int)) = false := by rw [beq_eq_false_iff_ne]; omega
    have e9' : ((nx : Int) != (ny : Int)) = true := by rw [bne_iff_ne]; omega
    clear f9 hh
    go_enter Try.func11, Try.ntmps11
    go_wp2
    go_ret
    exact ⟨rfl, by go_grown⟩
  subst f9
  by_cases f10 : n2x = n2y
  rotate_left
  · have e10 : ((n2x : Int) == (n2y : Int)) = false := by rw [beq_eq_false_iff_ne]; omega
    have e10' : ((n2x : Int) != (n2y : Int)) = true := by rw [bne_iff_ne]; omega
    clear f10 hh
    go_enter Try.func11, Try.ntmps11
    go_wp2
    go_ret
    exact ⟨rfl, by go_grown⟩
  subst f10
  exact absurd ⟨rfl, rfl, rfl, rfl, rfl, rfl, rfl, rfl, rfl, rfl, rfl⟩ hh
end Go.Proofs.Ytfphdchpfhedfaa
