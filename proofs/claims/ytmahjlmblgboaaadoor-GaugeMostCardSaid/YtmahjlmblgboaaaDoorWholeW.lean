/- The walk of the statement GaugeWhole. Conditions: the table of the powers of ten reads as it is laid. -/
import Derived.Test.YtmahjlmblgboaaaDoorWholeP
namespace Go.Proofs.YtmahjlmblgboaaaDoor
open Go.ChangeShapes Go.WideShapes Go.ChangeAt Go.RowKit
set_option linter.unusedVariables false
theorem Tryd.info43 : (Tryd.prog.info? 43).map (fun i => (i.zero, i.size, i.bytes)) = some (some (.float .f64 0), 1, 8) := by kernel_rfl
theorem one_float (w : World) (u : Value) : ∀ j v, [u][j]? = some v → (w.alloc (.cells #[u] 43)).cell? ((⟨w.heap.size, 0, none⟩ : Addr).add j) = some v := by
  intro j v hj
  match j, hj with
  | 0, hj => simp at hj; subst hj; simp [Addr.add]
  | j + 1, hj => simp at hj
theorem one_cellf (z : Nat) : ∀ u ∈ [Value.float .f64 z], u.oneCell' = true := by
  intro u hu; simp at hu; subst hu; rfl
theorem app_000 (l : List UInt8) : ((⟨l.toArray⟩ : ByteArray) ++ ⟨#[46, 48, 48, 48]⟩) = ⟨(l ++ [46, 48, 48, 48]).toArray⟩ := by
  have : (⟨#[46, 48, 48, 48]⟩ : ByteArray) = ⟨[46, 48, 48, 48].toArray⟩ := rfl
  rw [this, ByteArray.mk_append_mk]
set_option maxRecDepth 100000 in
set_option maxHeartbeats 4000000 in
theorem whole (n k : Int) (b0 : -9223372036854775808 ≤ n) (b1 : n ≤ 9223372036854775807) (c0 : -9223372036854775808 ≤ k) (c1 : k ≤ 9223372036854775807) (w : World) (ht : TabAt w) : Calls Tryd.prog 9 #[.int .i64 n, .int .i64 k] w fun e w' => e = .returned (.bool true) ∧ Below w.heap.size w w' := by
  obtain ⟨i0, hi, hz0, hz1, hz2⟩ := info_parts Tryd.info43
  obtain ⟨N, hN⟩ : ∃ N : Nat, min (max n 0) 1073741824 = (N : Int) := ⟨(min (max n 0) 1073741824).toNat, by omega⟩
  obtain ⟨K, hK⟩ : ∃ K : Nat, min (max k 1) 16 = (K : Int) := ⟨(min (max k 1) 16).toNat, by omega⟩
  have N1 : N ≤ 1073741824 := by omega
  have K0 : 1 ≤ K := by omega
  have K1 : K ≤ 16 := by omega
  have T := Lib.hid ht
  clear ht
  have q1 := qt_one N N1
  have xn := wI_nan N (by omega)
  have xl := wI_lt N (by omega)
  have xt := Lib.hid (txt_int N N1)
  obtain ⟨x, hx⟩ : ∃ x, wI N = x := ⟨_, rfl⟩
  have MR := Lib.hid (mean_rep N K x K0 K1 N1 hx)
  rw [hx] at q1 xn xl xt
  have R1 := Lib.hid (fun W => Rate_any N 1 W)
  rw [q1] at R1
  clear q1
  go_enter Tryd.func9, Tryd.ntmps9
  go_wp2_with fail
  refine (R1.out _).mono ?_
  rintro e w1 ⟨r, rfl, f1, hb1⟩
  have er := f1.num
  subst er
  have B1 := Lib.hid hb1
  clear hb1 f1 R1
  go_wp2
  go_loopw [6, 16] (fun v i wr => ∃ j : Nat, j ≤ K ∧ i = .int .i64 j ∧ Hid (wr.ownsRow w.heap.size 43 1 v j ((List.replicate j r).map (Value.float .f64))) ∧ Hid (Below w.heap.size w wr)) (fun _ i _ => K - (intOf i).toNat)
  case atStart => exact ⟨0, by omega, rfl, Lib.hid (World.ownsRow_nil _ _ _ _), B1⟩
  case round =>
    obtain ⟨j, hj, rfl, hown, hbel⟩ := hrel
    have hsz := hbel.out.size
    by_cases hlt : j < K
    · go_wp2_with (at_builtin; refine wpList_append_own _ rfl _ _ 52 rfl w.heap.size 43 i0 (.float .f64 0) 1 8 Tryd.underlying52 hi hz0 hz1 hz2 rfl (by decide) _ _ _ rfl (hown.out.alloc _) ⟨wr.heap.size, 0, none⟩ 1 1 [.float .f64 r] rfl rfl (one_float _ _) (one_cellf _) (by unfold maxLen; omega) (by omega) (by simp; omega) ?_; intro v' w1 hown1 hgrow1 _)
      have hb1 := Lib.hid ((hbel.out.alloc hsz _).grown hgrow1 (by simp; omega) (fun g hg => (hown.out.lt g hg).1))
      have ho1 := Lib.hid (show w1.ownsRow w.heap.size 43 1 v' (j + 1) ((List.replicate (j + 1) r).map (Value.float .f64)) by rw [List.replicate_succ', List.map_append]; exact hown1)
      go_roundw
      case rel => exact ⟨j + 1, by omega, by go_num, ho1, hb1⟩
      case measure => simp [intOf] <;> omega
    · have hjk : j = K := by omega
      subst hjk
      obtain ⟨A, C, rfl, hfl⟩ := own_fl hown.out
      have HF := Lib.hid hfl
      clear hown hfl
      go_wp2_with fail
      refine (alive_any _ (T.out.below hbel.out)).mono ?_
      rintro e w2 ⟨rfl, hb2⟩
      have B2 := Lib.hid (hbel.out.trans (hb2.mono hsz))
      have F2 := Lib.hid (HF.out.below hb2)
      clear hb2 HF
      go_wp2_with fail
      refine (Text_any r xl _ (T.out.below B2.out)).mono ?_
      rintro e w3 ⟨s1, rfl, l1, z1, hb3⟩
      have B3 := Lib.hid (B2.out.trans (hb3.mono B2.out.size))
      have F3 := Lib.hid (F2.out.below hb3)
      have s1e := str_of l1
      rw [xt.out] at s1e
      subst s1e
      have ll : (Lib.decDigits N).length ≤ 17 := by have := txt_len r; rw [xt.out, List.length_append] at this; omega
      clear l1 z1 hb3 B2 F2
      go_wp2_with fail
      refine (itoa_any N (by omega) _ (T.out.below B3.out)).mono ?_
      rintro e w4 ⟨s2, rfl, l2, z2, hb4⟩
      have B4 := Lib.hid (B3.out.trans (hb4.mono B3.out.size))
      have F4 := Lib.hid (F3.out.below hb4)
      have s2e := str_of l2
      subst s2e
      have ap := app_000 (Lib.decDigits N)
      have sz : (⟨(Lib.decDigits N).toArray⟩ : ByteArray).size ≤ 17 := by rw [str_size]; exact ll
      clear l2 z2 hb4 B3 F3
      generalize Lib.decDigits N = l at *
      go_wp2_with fail
      have lr : (List.replicate j r).length = j := List.length_replicate ..
      have mr := Lib.hid (fun y (hy : y ∈ List.replicate j r) => List.eq_of_mem_replicate hy)
      have nr := Lib.hid (show List.replicate j r ≠ [] from fun h => by have := congrArg List.length h; rw [lr] at this; simp at this; omega)
      refine (Mean_any A j C (List.replicate j r) _ lr (by omega) F4.out).mono ?_
      rw [MR.out]
      rintro e w5 ⟨r1, rfl, f5, hb5⟩
      have B5 := Lib.hid (B4.out.trans (hb5.mono B4.out.size))
      have F5 := Lib.hid (F4.out.below hb5)
      have e5 := f5.num
      subst e5
      have srr : sameB r1 r1 = true := decide_eq_true rfl
      clear hb5 B4 F4 f5
      go_wp2_with fail
      refine (same_any r1 r1 _).mono ?_
      rw [srr]
      rintro e w' ⟨rfl, rfl⟩
      go_wp2_with fail
      refine (Most_any A j C (List.replicate j r1) _ lr (by omega) F5.out (fun y hy => by rw [mr.out y hy]; exact xl)).mono ?_
      rintro e w6 ⟨r2, rfl, _, _, h6, hb6⟩
      have B6 := Lib.hid (B5.out.trans (hb6.mono B5.out.size))
      have e6 := mr.out r2 (h6 nr.out).1
      subst e6
      clear hb6 B5 F5 h6
      go_wp2_with fail
      refine (same_any r2 r2 _).mono ?_
      rw [srr]
      rintro e w' ⟨rfl, rfl⟩
      have RZ := Lib.hid (fun W => Rate_any N 0 W)
      rcases Nat.eq_zero_or_pos N with c | c
      · subst c
        rw [show ((0 : Nat) : Int) = 0 from rfl, qt00] at RZ
        go_wp2_with fail
        refine (RZ.out _).mono ?_
        rintro e w7 ⟨r3, rfl, f7, hb7⟩
        have B7 := Lib.hid (B6.out.trans (hb7.mono B6.out.size))
        have t7 := Lib.hid (show txt r3 = [110, 111, 110, 101] by unfold txt; rw [if_pos f7.nan])
        have l7 := Lib.hid f7.lt
        clear hb7 f7 B6
        go_wp2_with fail
        refine (Text_any r3 l7.out _ (T.out.below B7.out)).mono ?_
        rw [t7.out]
        rintro e w8 ⟨s3, rfl, l3, z3, hb8⟩
        have B8 := Lib.hid (B7.out.trans (hb8.mono B7.out.size))
        have e8 := str_of l3
        subst e8
        clear l3 z3 hb8 B7
        go_wp2
        go_ret
        exact ⟨rfl, B8.out⟩
      · obtain ⟨v, hv, hn⟩ := qt_inf N (by omega) N1
        rw [hv] at RZ
        have n0 : ((N : Int) == 0) = false := by rw [beq_eq_false_iff_ne]; omega
        have n0' : (N == 0) = false := by rw [beq_eq_false_iff_ne]; omega
        have n1 : ¬ ((N : Int) = 0) := by omega
        go_wp2_with fail
        refine (RZ.out _).mono ?_
        rintro e w7 ⟨r3, rfl, f7, hb7⟩
        have B7 := Lib.hid (B6.out.trans (hb7.mono B6.out.size))
        have e7 := f7.num
        have l7 := Lib.hid f7.lt
        subst e7
        have t7 := txt_not r3 hn
        have t7' : (txt r3 == [110, 111, 110, 101]) = false := by rw [beq_eq_false_iff_ne]; exact t7
        clear hb7 f7 B6
        go_wp2_with fail
        refine (Text_any r3 l7.out _ (T.out.below B7.out)).mono ?_
        rintro e w8 ⟨s3, rfl, l3, z3, hb8⟩
        have B8 := Lib.hid (B7.out.trans (hb8.mono B7.out.size))
        have e8 := str_of l3
        subst e8
        clear l3 z3 hb8 B7 l7 RZ hn hv
        generalize txt r3 = l9 at *
        go_wp2
        go_ret
        exact ⟨rfl, B8.out⟩
end Go.Proofs.YtmahjlmblgboaaaDoor
