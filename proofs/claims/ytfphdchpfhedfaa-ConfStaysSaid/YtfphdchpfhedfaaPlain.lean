/- The plain facts on a core's shape, with no program in sight. No conditions. -/
import Derived.IntWalk
namespace Go.Proofs.Ytfphdchpfhedfaa

/-- a number brought into bounds -/
def cl (lo hi x : Int) : Int := if x < lo then lo else if hi < x then hi else x
theorem cl_lo {lo hi x : Int} (h : x < lo) : cl lo hi x = lo := by unfold cl; rw [if_pos h]
theorem cl_hi {lo hi x : Int} (h : lo ≤ x) (h' : hi < x) : cl lo hi x = hi := by unfold cl; rw [if_neg (by omega), if_pos h']
theorem cl_in {lo hi x : Int} (h : lo ≤ x) (h' : x ≤ hi) : cl lo hi x = x := by unfold cl; rw [if_neg (by omega), if_neg (by omega)]
theorem cl_bd (lo hi x : Int) (h : lo ≤ hi) : lo ≤ cl lo hi x ∧ cl lo hi x ≤ hi := by unfold cl; split <;> (try split) <;> omega
/-- is a number within bounds? -/
def wi (lo hi n : Int) : Bool := decide (lo ≤ n) && decide (n ≤ hi)
/-- a place in a tape -/
def pl (k n : Int) : Int := if k < 0 then 0 else k % n
theorem pl_neg {k : Int} (n : Int) (h : k < 0) : pl k n = 0 := by unfold pl; rw [if_pos h]
theorem pl_pos {k : Int} (n : Int) (h : 0 ≤ k) : pl k n = k % n := by unfold pl; rw [if_neg (by omega)]
theorem pl_bd (k n : Int) (h : 1 ≤ n) : 0 ≤ pl k n ∧ pl k n < n := by
  unfold pl; split
  · omega
  · have := Int.emod_nonneg k (b := n) (by omega); have := Int.emod_lt_of_pos k (b := n) (by omega); omega
end Go.Proofs.Ytfphdchpfhedfaa
