/- Contracts of the greatest rate. Conditions: the slice reads as a list of doubles. -/
import Derived.Test.YtmahjlmblgboaaaDoorOffer
import Derived.Laws.CopyOwn
import Derived.Test.YtmahjlmblgboaaaDoorRatesW
namespace Go.Proofs.YtmahjlmblgboaaaDoor
open Go.RowKit Go.ChangeShapes Go.WideShapes Go.ChangeAt
set_option linter.unusedVariables false
/-- the greatest of a list: one of it, none ahead of it -/
def MP (L : List Nat) (w : World) (e : Ending) (w' : World) : Prop := ∃ r, e = .returned (.float .f64 r) ∧ r < 18446744073709551616 ∧ (L = [] → nanB r = true) ∧ (L ≠ [] → r ∈ L ∧ ∀ y ∈ L, tk y ≤ tk r) ∧ Below w.heap.size w w'
def Mx (L : List Nat) (k v : Nat) : Prop := 0 < k → (∃ j, j < k ∧ v = L.getD j 0) ∧ ∀ j, j < k → tk (L.getD j 0) ≤ tk v
theorem Mx.step {L : List Nat} {k v : Nat} (h : Mx L k v) : Mx L (k + 1) (bt (decide (0 < k)) v (L.getD k 0)) := fun _ => by
  unfold bt
  by_cases c : decide (0 < k) = false ∨ tk v < tk (L.getD k 0)
  · rw [if_pos c]
    refine ⟨⟨k, by omega, rfl⟩, fun j hj => ?_⟩
    by_cases e : j = k
    · rw [e]; exact Int.le_refl _
    · rcases c with c | c
      · have := of_decide_eq_false c; omega
      · exact Int.le_trans ((h (by omega)).2 j (by omega)) (Int.le_of_lt c)
  · rw [if_neg c]
    obtain ⟨c1, c2⟩ := not_or.1 c
    have k0 : 0 < k := by simp at c1; omega
    obtain ⟨⟨j, hj, e⟩, ha⟩ := h k0
    refine ⟨⟨j, by omega, e⟩, fun i hi => ?_⟩
    by_cases e : i = k
    · rw [e]; omega
    · exact ha i (by omega)
theorem bt_lt {s : Bool} {v x : Nat} (hv : v < 18446744073709551616) (hx : x < 18446744073709551616) : bt s v x < 18446744073709551616 := by unfold bt; split <;> assumption
theorem Mx.all {L : List Nat} {v : Nat} (h : Mx L L.length v) (hn : L ≠ []) : v ∈ L ∧ ∀ y ∈ L, tk y ≤ tk v := by
  obtain ⟨⟨j, hj, e⟩, ha⟩ := h (List.length_pos_iff.2 hn)
  refine ⟨?_, fun y hy => ?_⟩
  · rw [e, List.getD_eq_getElem?_getD, List.getElem?_eq_getElem hj]; exact List.getElem_mem _
  · obtain ⟨i, hi, e⟩ := List.mem_iff_getElem.1 hy
    have := ha i hi
    rw [List.getD_eq_getElem?_getD, List.getElem?_eq_getElem hi, Option.getD_some, e] at this
    exact this
theorem getD_lt {L : List Nat} (h : ∀ x ∈ L, x < 18446744073709551616) (k : Nat) : L.getD k 0 < 18446744073709551616 := by
  rw [List.getD_eq_getElem?_getD]
  cases hk : L[k]? with
  | none => decide
  | some v => exact h v (List.mem_of_getElem? hk)
theorem store_63 {w : World} {ops : Array Oper} {rest : List Oper} {o : Oper} {a : Act} {Q : Exit → Act → World → Prop} (hgd : o.guard = none) (x y : Operand) (ho : o.op = .store 63 x y)
    (g : Nat) (new : Array Value) (hx : a.eval x = .pointer (some ⟨g, 0, none⟩)) (hy : a.eval y = .agg new) (old : Array Value) (hg : w.heap[g]? = some (.cells old 63 (0, 0))) (h1 : old.size = 3) (h2 : new.size = 3) (hone : ∀ v ∈ new.toList, v.oneCell' = true)
    (h : ∀ w2, w2.heap[g]? = some (.cells new 63 (0, 0)) → w2.heap.size = w.heap.size → (∀ (B : Nat) (w0 : World), Below B w0 w → B ≤ g → Below B w0 w2) → wpList Tryd.prog ops Q rest (a.put o.dst undef) w2) :
    wpList Tryd.prog ops Q (o :: rest) a w := by
  refine wpList_plain hgd fun K hK => ?_
  have hrun := run_storeVar_row (P := Tryd.prog) w g 63 63 old new hg (by rw [h2]; kernel_rfl) (by omega) (Array.all_eq_true_iff_forall_mem.2 (fun v hv => hone v (by simpa using hv)))
  unfold Oper.wp execOp
  simp only [ho, hx, hy, Instr.storeAt, Instr.sureAddr, Sem.run_bind, Sem.run_pure, Result.andThen_ok, hrun]
  exact hK _ _ (h _ (setRow_heap w g _ _ _ _ hg) (by simp [World.setRow]) (fun B w0 hb hB => below_setRow hb hB _))
theorem box_one : ∀ v ∈ (#[.func (.func 16) #[] #[], .bool false, .float .f64 0] : Array Value).toList, v.oneCell' = true := by
  have h : ((#[.func (.func 16) #[] #[], .bool false, .float .f64 0] : Array Value).toList).all (fun v => v.oneCell') = true := rfl
  rw [List.all_eq_true] at h
  exact h
set_option maxRecDepth 100000 in
set_option maxHeartbeats 4000000 in
theorem Most_any (A : Option Addr) (n C : Nat) (L : List Nat) (w : World) (hn : L.length = n) (bn : n ≤ 9223372036854775807) (hL : Fl w A L) (hX : ∀ x ∈ L, x < 18446744073709551616) : Calls Tryd.prog 20 #[.slice A n C] w (MP L w) := by
  have Hn := Lib.hid hn
  have HL := Lib.hid hL
  have HX := Lib.hid hX
  clear hL hn hX
  have hmf : ∀ (fn : Fn) (first cap : Array Value) (w : World), (Instr.makeFunc fn first cap).run Tryd.prog w = .ok (.func fn first cap) w := fun _ _ _ _ => rfl
  go_enter Tryd.func20, Tryd.ntmps20
  go_wp2_with (refine store_63 (o := ⟨none, Op.store 63 _ _, _, _, _, _⟩) rfl _ _ rfl w.heap.size #[.func (.func 16) #[] #[], .bool false, .float .f64 0] rfl rfl _ (heap_alloc_new w _) rfl rfl box_one ?_)
  intro W2 hg2 hs2 hb2
  have B2 := Lib.hid (hb2 _ _ ((Below.refl w.heap.size w).alloc (Nat.le_refl _) _) (Nat.le_refl _))
  have G2 : Hid (Bx W2 w.heap.size false 0) := Lib.hid hg2
  clear hg2 hs2 hb2
  go_wp2
  go_loopw [11] (fun i wr => ∃ (k v : Nat), k ≤ n ∧ i = .int .i64 k ∧ v < 18446744073709551616 ∧ Hid (Mx L k v) ∧ Hid (Bx wr w.heap.size (decide (0 < k)) v) ∧ Hid (Below w.heap.size w wr)) (fun i _ => n - (intOf i).toNat)
  case atStart => exact ⟨0, 0, by omega, rfl, by decide, Lib.hid (fun h => absurd h (by decide)), G2, B2⟩
  case round =>
    obtain ⟨k, v, hk, rfl, hv, hm, hx, hb⟩ := hrel
    by_cases hlt : k < n
    · have hkl : k < L.length := by rw [Hn.out]; exact hlt
      obtain ⟨b, off, rfl, hblt, hc⟩ := HL.out (by omega)
      have hcell := (hb.out.cell (p := ⟨b, off + k, none⟩) hblt).trans (hc k hkl)
      have hs := Lib.hid hm.out.step
      have lz := getD_lt HX.out k
      obtain ⟨z, ez⟩ : ∃ z, L.getD k 0 = z := ⟨_, rfl⟩
      rw [ez] at hcell hs lz
      clear ez hc hkl
      go_wp2_with fail
      refine (offer_any _ _ v z lz hv _ hx.out).mono ?_
      rintro e w1 ⟨⟨u, rfl⟩, hx1, hb1⟩
      have B1 := Lib.hid (hb1 _ _ hb.out (Nat.le_refl _))
      have X1 : Hid (Bx w1 w.heap.size (decide (0 < k + 1)) (bt (decide (0 < k)) v z)) := Lib.hid (by rw [show decide (0 < k + 1) = true from decide_eq_true (by omega)]; exact hx1)
      have vl := bt_lt (s := decide (0 < k)) hv lz
      generalize bt (decide (0 < k)) v z = v' at *
      clear hx1 hb1 hx hb
      go_wp2
      go_roundw
      case rel => exact ⟨k + 1, v', by omega, by go_num, vl, hs, X1, B1⟩
      case measure => simp [intOf]; omega
    · have hkn : k = n := by omega
      subst hkn
      rcases Nat.eq_zero_or_pos k with c | c
      · subst c
        have L0 : L = [] := List.length_eq_zero_iff.1 Hn.out
        have X : Bx wr w.heap.size false v := hx.out
        have c1 := X.c1
        clear X
        go_wp2_with (go_at_call 33; refine (nan_any _).mono ?_; rintro e w' ⟨rfl, rfl⟩)
        go_ret
        exact ⟨_, rfl, by decide, fun _ => by decide, fun h => absurd L0 h, hb.out⟩
      · have Ln : L ≠ [] := fun h => by have := Hn.out; rw [h] at this; simp at this; omega
        have X : Bx wr w.heap.size true v := by have := hx.out; rw [decide_eq_true c] at this; exact this
        have c1 := X.c1
        have c2 := X.c2
        have M : Hid (v ∈ L ∧ ∀ y ∈ L, tk y ≤ tk v) := Lib.hid (by have := hm.out; rw [← Hn.out] at this; exact this.all Ln)
        clear X
        go_wp2
        go_ret
        exact ⟨_, rfl, hv, fun h => absurd h Ln, fun _ => M.out, hb.out⟩
/-- none of the first k has nothing ahead of it -/
def Un (L : List Nat) (k : Nat) : Prop := ∀ j, j < k → ∃ m, m < L.length ∧ tk (L.getD j 0) < tk (L.getD m 0)
theorem Mx_ex (L : List Nat) (k : Nat) : ∃ v, Mx L k v := by
  induction k with
  | zero => exact ⟨0, fun h => absurd h (by decide)⟩
  | succ k ih => obtain ⟨v, h⟩ := ih; exact ⟨_, h.step⟩
theorem Un.all {L : List Nat} (h : Un L L.length) : L = [] := by
  cases hL : L with
  | nil => rfl
  | cons a l =>
    rw [← hL]
    exfalso
    have hp : 0 < L.length := by rw [hL]; simp
    obtain ⟨v, hv⟩ := Mx_ex L L.length
    obtain ⟨⟨j, hj, e⟩, ha⟩ := hv hp
    obtain ⟨m, hm, hlt⟩ := h j hj
    have := ha m hm
    rw [e] at this
    omega
/-- whether none of the first j is ahead of x -/
def Tp (L : List Nat) (x j : Nat) (s : Bool) : Prop := s = true ↔ ∀ m, m < j → tk (L.getD m 0) ≤ tk x
theorem Tp.lt {L : List Nat} {x j : Nat} {s : Bool} (h : Tp L x j s) (c : tk x < tk (L.getD j 0)) : Tp L x (j + 1) false :=
  ⟨fun h => absurd h (by decide), fun h => by have := h j (by omega); omega⟩
theorem Tp.ge {L : List Nat} {x j : Nat} {s : Bool} (h : Tp L x j s) (c : tk (L.getD j 0) ≤ tk x) : Tp L x (j + 1) s :=
  ⟨fun hs m hm => by
    by_cases e : m = j
    · rw [e]; exact c
    · exact h.1 hs m (by omega), fun ha => h.2 fun m hm => ha m (by omega)⟩
theorem cmpI_neg {p q : Int} (h : ¬ p < q) : ¬ cmpI p q < 0 := by unfold cmpI; rw [if_neg h]; split <;> omega
theorem cmpI_neg' {p q : Int} (h : p < q) : cmpI p q < 0 := by unfold cmpI; rw [if_pos h]; omega
set_option maxRecDepth 100000 in
set_option maxHeartbeats 4000000 in
theorem most_any (A : Option Addr) (n C : Nat) (L : List Nat) (w : World) (hn : L.length = n) (bn : n ≤ 9223372036854775807) (hL : Fl w A L) (hX : ∀ x ∈ L, x < 18446744073709551616) : Calls Tryd.prog 23 #[.slice A n C] w (MP L w) := by
  have Hn := Lib.hid hn
  have HL := Lib.hid hL
  have HX := Lib.hid hX
  clear hL hn hX
  have R := Lib.hid (fun W => rate_any 0 0 W)
  rw [qt00] at R
  go_enter Tryd.func23, Tryd.ntmps23
  go_wp2
  go_loopw [10] (fun i wr => ∃ (k : Nat), k ≤ n ∧ i = .int .i64 k ∧ Hid (Un L k) ∧ Hid (Below w.heap.size w wr)) (fun i _ => n - (intOf i).toNat)
  case atStart => exact ⟨0, by omega, rfl, Lib.hid (fun j h => absurd h (by omega)), Lib.hid (Below.refl _ _)⟩
  case round =>
    obtain ⟨k, hk, rfl, hu, hb⟩ := hrel
    by_cases hlt : k < n
    · have hkl : k < L.length := by rw [Hn.out]; exact hlt
      obtain ⟨b, off, rfl, hblt, hc⟩ := HL.out (by omega)
      have hcell := (hb.out.cell (p := ⟨b, off + k, none⟩) hblt).trans (hc k hkl)
      have lz := getD_lt HX.out k
      obtain ⟨z, ez⟩ : ∃ z, L.getD k 0 = z := ⟨_, rfl⟩
      rw [ez] at hcell lz
      have EZ := Lib.hid ez
      have HC := Lib.hid hc
      clear ez hc
      go_wp2
      go_loopw [5, 16] (fun s i w2 => ∃ (j : Nat) (t : Bool), j ≤ n ∧ i = .int .i64 j ∧ s = .bool t ∧ Hid (Tp L z j t) ∧ Hid (Below w.heap.size w w2)) (fun _ i _ => n - (intOf i).toNat)
      case atStart => exact ⟨0, true, by omega, rfl, rfl, Lib.hid ⟨fun _ m h => absurd h (by omega), fun _ => rfl⟩, hb⟩
      case round =>
        obtain ⟨j, t, hj, rfl, rfl, ht, hb2⟩ := hrel
        by_cases hjt : j < n
        · have hjl : j < L.length := by rw [Hn.out]; exact hjt
          have hcell2 := (hb2.out.cell (p := ⟨b, off + j, none⟩) hblt).trans (HC.out j hjl)
          have tl := fun c => ht.out.lt (j := j) c
          have tg := fun c => ht.out.ge (j := j) c
          obtain ⟨y, ey⟩ : ∃ y, L.getD j 0 = y := ⟨_, rfl⟩
          rw [ey] at hcell2 tl tg
          clear ey
          go_wp2_with fail
          refine (order_any z y _).mono ?_
          rintro e w' ⟨rfl, rfl⟩
          by_cases c : tk z < tk y
          · have T1 := Lib.hid (tl c)
            have q := cmpI_neg' c
            clear tl tg c ht
            generalize cmpI (tk z) (tk y) = q0 at *
            go_wp2
            go_roundw
            case rel => exact ⟨j + 1, false, by omega, by go_num, rfl, T1, hb2⟩
            case measure => simp [intOf]; omega
          · have T1 := Lib.hid (tg (by omega))
            have q := cmpI_neg c
            clear tl tg c ht
            generalize cmpI (tk z) (tk y) = q0 at *
            go_wp2
            go_roundw
            case rel => exact ⟨j + 1, t, by omega, by go_num, rfl, T1, hb2⟩
            case measure => simp [intOf]; omega
        · have hjn : j = L.length := by have := Hn.out; omega
          cases t with
          | true =>
            have M : Hid (z ∈ L ∧ ∀ y ∈ L, tk y ≤ tk z) := Lib.hid (by
              have h := ht.out.1 rfl
              refine ⟨?_, fun y hy => ?_⟩
              · rw [← EZ.out, List.getD_eq_getElem?_getD, List.getElem?_eq_getElem hkl]; exact List.getElem_mem _
              · obtain ⟨i, hi, e⟩ := List.mem_iff_getElem.1 hy
                have := h i (by omega)
                rw [List.getD_eq_getElem?_getD, List.getElem?_eq_getElem hi, Option.getD_some, e] at this
                exact this)
            have Ln : L ≠ [] := fun h => by rw [h] at hkl; simp at hkl
            go_wp2
            go_ret
            exact ⟨_, rfl, lz, fun h => absurd h Ln, fun _ => M.out, hb2.out⟩
          | false =>
            have U : Hid (Un L (k + 1)) := Lib.hid (fun i hi => by
              by_cases e : i = k
              · have h : ¬ ∀ m, m < j → tk (L.getD m 0) ≤ tk z := fun ha => by have := ht.out.2 ha; cases this
                have ⟨m, hm⟩ := Classical.not_forall.1 h
                have ⟨h1, h2⟩ := Classical.not_imp.1 hm
                rw [e, EZ.out]
                exact ⟨m, by omega, by omega⟩
              · exact hu.out i (by omega))
            go_wp2
            go_roundw
            case rel => exact ⟨k + 1, by omega, by go_num, U, hb2⟩
            case measure => simp [intOf]; omega
    · have L0 := Lib.hid (show L = [] by have := hu.out; rw [show k = L.length by have := Hn.out; omega] at this; exact this.all)
      have hkn : k = n := by omega
      subst hkn
      go_wp2_with fail
      refine (R.out _).mono ?_
      rintro e w1 ⟨r1, rfl, f1, hb1⟩
      have B1 := Lib.hid (hb.out.trans (hb1.mono hb.out.size))
      have F1 := Lib.hid f1
      clear f1 hb1
      go_wp2
      go_ret
      exact ⟨_, rfl, F1.out.lt, fun _ => F1.out.nan, fun h => absurd L0.out h, B1.out⟩
end Go.Proofs.YtmahjlmblgboaaaDoor
