/- The contract of the closure 'offer'. Conditions: its box is a block known whole. -/
import Derived.Test.YtmahjlmblgboaaaDoorMeanC
import Derived.BigQuiet
import Derived.OneCell
namespace Go.Proofs.YtmahjlmblgboaaaDoor
open Go.RowKit
set_option linter.unusedVariables false
/-- the box: the order, whether there is one, the one -/
def Bx (w : World) (g : Nat) (s : Bool) (v : Nat) : Prop := w.heap[g]? = some (.cells #[.func (.func 16) #[] #[], .bool s, .float .f64 v] 63 (0, 0))
theorem Bx.c0 {w : World} {g : Nat} {s : Bool} {v : Nat} (h : Bx w g s v) : w.cell? ⟨g, 0, none⟩ = some (.func (.func 16) #[] #[]) := by unfold Bx at h; simp [World.cell?, h]
theorem Bx.c1 {w : World} {g : Nat} {s : Bool} {v : Nat} (h : Bx w g s v) : w.cell? ⟨g, 1, none⟩ = some (.bool s) := by unfold Bx at h; simp [World.cell?, h]
theorem Bx.c2 {w : World} {g : Nat} {s : Bool} {v : Nat} (h : Bx w g s v) : w.cell? ⟨g, 2, none⟩ = some (.float .f64 v) := by unfold Bx at h; simp [World.cell?, h]
theorem Bx.f {w : World} {g : Nat} {s : Bool} {v : Nat} (h : Bx w g s v) (i : Nat) : w.frozen? ⟨g, i, none⟩ = false := by unfold Bx at h; simp [World.frozen?, h]
theorem Bx.set1 {w : World} {g : Nat} {s : Bool} {v : Nat} (h : Bx w g s v) (u : Bool) : Bx (w.setCell ⟨g, 1, none⟩ (.bool u)) g u v := by
  unfold Bx at h
  have hlt := lt_of_block h
  have h' : w.heap[g] = .cells #[.func (.func 16) #[] #[], .bool s, .float .f64 v] 63 (0, 0) := by simpa [Array.getElem?_eq_getElem hlt] using h
  show (w.heap.modify g _)[g]? = _
  rw [Array.getElem?_eq_getElem (by simpa using hlt), Array.getElem_modify_self, h']
  rfl
theorem Bx.set2 {w : World} {g : Nat} {s : Bool} {v : Nat} (h : Bx w g s v) (u : Nat) : Bx (w.setCell ⟨g, 2, none⟩ (.float .f64 u)) g s u := by
  unfold Bx at h
  have hlt := lt_of_block h
  have h' : w.heap[g] = .cells #[.func (.func 16) #[] #[], .bool s, .float .f64 v] 63 (0, 0) := by simpa [Array.getElem?_eq_getElem hlt] using h
  show (w.heap.modify g _)[g]? = _
  rw [Array.getElem?_eq_getElem (by simpa using hlt), Array.getElem_modify_self, h']
  rfl
theorem Bx.drew {w : World} {g : Nat} {s : Bool} {v : Nat} (h : Bx w g s v) (n : Nat) : Bx (w.drewN n) g s v := h
theorem below_drew {B : Nat} {w0 w : World} (h : Below B w0 w) (n : Nat) : Below B w0 (w.drewN n) := h.trans ⟨rfl, rfl, rfl, Nat.le_refl _, fun _ _ => rfl⟩
theorem took_end {w : World} {g : Nat} {s : Bool} {v x n : Nat} (hb : Bx w g s v) : Bx (((w.drewN n).setCell ⟨g, 1, none⟩ (.bool true)).setCell ⟨g, 2, none⟩ (.float .f64 x)) g true x ∧ ∀ (B : Nat) (w0 : World), Below B w0 w → B ≤ g → Below B w0 (((w.drewN n).setCell ⟨g, 1, none⟩ (.bool true)).setCell ⟨g, 2, none⟩ (.float .f64 x)) :=
  ⟨((hb.drew n).set1 true).set2 x, fun B w0 h hB => ((below_drew h n).setCell hB _).setCell hB _⟩
set_option maxHeartbeats 4000000 in
theorem offer_first (g : Nat) (v x : Nat) (w : World) (hb : Bx w g false v) : Calls Tryd.prog 32 #[.pointer (some ⟨g, 0, none⟩), .float .f64 x] w fun e w' => (∃ u, e = .returned u) ∧ Bx w' g true x ∧ ∀ (B : Nat) (w0 : World), Below B w0 w → B ≤ g → Below B w0 w' := by
  have k0 := hb.c0
  have k1 := hb.c1
  have k2 := hb.c2
  have f1 := hb.f 1
  have g2 : ∀ n, ((w.drewN n).setCell ⟨g, 1, none⟩ (.bool true)).cell? ⟨g, 2, none⟩ = some (.float .f64 v) := fun n => ((hb.drew n).set1 true).c2
  have SF : ∀ W, (store ⟨g, 2, none⟩ (.float .f64 x)).run Tryd.prog W = stored Tryd.prog W ⟨g, 2, none⟩ (.float .f64 x) .plain := fun W => run_store Tryd.prog W _ _ _ rfl
  have f2 : ∀ n, ((w.drewN n).setCell ⟨g, 1, none⟩ (.bool true)).frozen? ⟨g, 2, none⟩ = false := fun n => ((hb.drew n).set1 true).f 2
  go_enter Tryd.func32, Tryd.ntmps32
  go_wp2
  go_quiet (fail)
  go_wp2
  go_end0
  exact ⟨⟨_, rfl⟩, took_end hb⟩
set_option maxHeartbeats 4000000 in
theorem offer_more (g : Nat) (v x : Nat) (hx : x < 18446744073709551616) (hv : v < 18446744073709551616) (c : tk v < tk x) (w : World) (hb : Bx w g true v) : Calls Tryd.prog 32 #[.pointer (some ⟨g, 0, none⟩), .float .f64 x] w fun e w' => (∃ u, e = .returned u) ∧ Bx w' g true x ∧ ∀ (B : Nat) (w0 : World), Below B w0 w → B ≤ g → Below B w0 w' := by
  have k0 := hb.c0
  have k1 := hb.c1
  have k2 := hb.c2
  have f1 := hb.f 1
  have g2 : ∀ n, ((w.drewN n).setCell ⟨g, 1, none⟩ (.bool true)).cell? ⟨g, 2, none⟩ = some (.float .f64 v) := fun n => ((hb.drew n).set1 true).c2
  have SF : ∀ W, (store ⟨g, 2, none⟩ (.float .f64 x)).run Tryd.prog W = stored Tryd.prog W ⟨g, 2, none⟩ (.float .f64 x) .plain := fun W => run_store Tryd.prog W _ _ _ rfl
  have f2 : ∀ n, ((w.drewN n).setCell ⟨g, 1, none⟩ (.bool true)).frozen? ⟨g, 2, none⟩ = false := fun n => ((hb.drew n).set1 true).f 2
  have OC := Lib.hid (fun W : World => (Order_any x v hx hv W).mono (R' := fun e w' => e = .returned (.int .i64 (1)) ∧ w' = W) fun e w' h => ⟨by rw [h.1, cmpI_gt c], h.2.symm⟩)
  go_enter Tryd.func32, Tryd.ntmps32
  go_wp2
  go_quiet (first | (go_at_call 16; exact Calls.quiet_of_same (OC.out _)))
  go_wp2
  go_end0
  exact ⟨⟨_, rfl⟩, took_end hb⟩
set_option maxHeartbeats 4000000 in
theorem offer_less (g : Nat) (v x : Nat) (hx : x < 18446744073709551616) (hv : v < 18446744073709551616) (c : tk x < tk v) (w : World) (hb : Bx w g true v) : Calls Tryd.prog 32 #[.pointer (some ⟨g, 0, none⟩), .float .f64 x] w fun e w' => (∃ u, e = .returned u) ∧ Bx w' g true v ∧ ∀ (B : Nat) (w0 : World), Below B w0 w → B ≤ g → Below B w0 w' := by
  have k0 := hb.c0
  have k1 := hb.c1
  have k2 := hb.c2
  have f1 := hb.f 1
  have g2 : ∀ n, ((w.drewN n).setCell ⟨g, 1, none⟩ (.bool true)).cell? ⟨g, 2, none⟩ = some (.float .f64 v) := fun n => ((hb.drew n).set1 true).c2
  have SF : ∀ W, (store ⟨g, 2, none⟩ (.float .f64 x)).run Tryd.prog W = stored Tryd.prog W ⟨g, 2, none⟩ (.float .f64 x) .plain := fun W => run_store Tryd.prog W _ _ _ rfl
  have f2 : ∀ n, ((w.drewN n).setCell ⟨g, 1, none⟩ (.bool true)).frozen? ⟨g, 2, none⟩ = false := fun n => ((hb.drew n).set1 true).f 2
  have OC := Lib.hid (fun W : World => (Order_any x v hx hv W).mono (R' := fun e w' => e = .returned (.int .i64 (-1)) ∧ w' = W) fun e w' h => ⟨by rw [h.1, cmpI_lt c], h.2.symm⟩)
  go_enter Tryd.func32, Tryd.ntmps32
  go_wp2
  go_quiet (first | (go_at_call 16; exact Calls.quiet_of_same (OC.out _)))
  go_wp2
  go_end0
  exact ⟨⟨_, rfl⟩, hb.drew _, fun B w0 h hB => below_drew h _⟩
set_option maxHeartbeats 4000000 in
theorem offer_same (g : Nat) (v x : Nat) (hx : x < 18446744073709551616) (hv : v < 18446744073709551616) (c : tk x = tk v) (w : World) (hb : Bx w g true v) : Calls Tryd.prog 32 #[.pointer (some ⟨g, 0, none⟩), .float .f64 x] w fun e w' => (∃ u, e = .returned u) ∧ Bx w' g true v ∧ ∀ (B : Nat) (w0 : World), Below B w0 w → B ≤ g → Below B w0 w' := by
  have k0 := hb.c0
  have k1 := hb.c1
  have k2 := hb.c2
  have f1 := hb.f 1
  have g2 : ∀ n, ((w.drewN n).setCell ⟨g, 1, none⟩ (.bool true)).cell? ⟨g, 2, none⟩ = some (.float .f64 v) := fun n => ((hb.drew n).set1 true).c2
  have SF : ∀ W, (store ⟨g, 2, none⟩ (.float .f64 x)).run Tryd.prog W = stored Tryd.prog W ⟨g, 2, none⟩ (.float .f64 x) .plain := fun W => run_store Tryd.prog W _ _ _ rfl
  have f2 : ∀ n, ((w.drewN n).setCell ⟨g, 1, none⟩ (.bool true)).frozen? ⟨g, 2, none⟩ = false := fun n => ((hb.drew n).set1 true).f 2
  have OC := Lib.hid (fun W : World => (Order_any x v hx hv W).mono (R' := fun e w' => e = .returned (.int .i64 (0)) ∧ w' = W) fun e w' h => ⟨by rw [h.1, cmpI_eq c], h.2.symm⟩)
  go_enter Tryd.func32, Tryd.ntmps32
  go_wp2
  go_quiet (first | (go_at_call 16; exact Calls.quiet_of_same (OC.out _)))
  go_wp2
  go_end0
  exact ⟨⟨_, rfl⟩, hb.drew _, fun B w0 h hB => below_drew h _⟩
/-- what the box holds behind an offer -/
def bt (s : Bool) (v x : Nat) : Nat := if s = false ∨ tk v < tk x then x else v
theorem offer_any (g : Nat) (s : Bool) (v x : Nat) (hx : x < 18446744073709551616) (hv : v < 18446744073709551616) (w : World) (hb : Bx w g s v) : Calls Tryd.prog 32 #[.pointer (some ⟨g, 0, none⟩), .float .f64 x] w fun e w' => (∃ u, e = .returned u) ∧ Bx w' g true (bt s v x) ∧ ∀ (B : Nat) (w0 : World), Below B w0 w → B ≤ g → Below B w0 w' := by
  cases s with
  | false => rw [show bt false v x = x from if_pos (.inl rfl)]; exact offer_first g v x w hb
  | true =>
    rcases Int.lt_trichotomy (tk v) (tk x) with c | c | c
    · rw [show bt true v x = x from if_pos (.inr c)]; exact offer_more g v x hx hv c w hb
    · rw [show bt true v x = v from if_neg (by simp; omega)]; exact offer_same g v x hx hv c.symm w hb
    · rw [show bt true v x = v from if_neg (by simp; omega)]; exact offer_less g v x hx hv c w hb
end Go.Proofs.YtmahjlmblgboaaaDoor
