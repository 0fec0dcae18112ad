/- Contract of the reference's Clean, three sets. Conditions: the slices read as lists. -/
import Derived.Test.YtfphdchpfhedfaaRc0
namespace Go.Proofs.Ytfphdchpfhedfaa
open Go.ChangeShapes Go.WideShapes Go.ChangeAt Go.RowKit
set_option linter.unusedVariables false
set_option maxHeartbeats 16000000 in
set_option maxRecDepth 100000 in
theorem rclean_a (m wd ro qu st sl se wa : Int) (A A2 : Option Addr) (C C2 : Nat) (L T : List Int) (tb : Bool) (n n2 : Nat) (w : World) (hn : L.length = n) (h2 : T.length = n2) (bn : n ≤ 9223372036854775807) (b2 : n2 ≤ 9223372036854775807) (hL : Sl w .i64 A L) (hT : Sl w .u32 A2 T) (hz : (cl 1 4 se == 3) = true) :
    Calls Try.prog 9 #[.agg #[.int .i64 m, .int .i64 wd, .int .i64 ro, .int .i64 qu, .int .i64 st, .int .i64 sl, .int .i64 se, .int .i64 wa, .slice A n C, .bool tb, .slice A2 n2 C2]] w (RCP m wd ro qu st sl se wa tb L T w) := by
  have HL := Lib.hid hL
  have HT := Lib.hid hT
  have Hn := Lib.hid hn
  have H2 := Lib.hid h2
  obtain ⟨i8, hi8, hz08, hz18, hz28⟩ := info_parts (show (Try.prog.info? 3).map (fun i => (i.zero, i.size, i.bytes)) = some (some (.int .i64 0), 1, 8) by kernel_rfl)
  obtain ⟨i4, hi4, hz04, hz14, hz24⟩ := info_parts (show (Try.prog.info? 30).map (fun i => (i.zero, i.size, i.bytes)) = some (some (.int .u32 0), 1, 4) by kernel_rfl)
  have HI8 := Lib.hid (And.intro hi8 (And.intro hz08 (And.intro hz18 hz28)))
  have HI4 := Lib.hid (And.intro hi4 (And.intro hz04 (And.intro hz14 hz24)))
  clear hL hT hn h2 hi8 hz08 hz18 hz28 hi4 hz04 hz14 hz24
  go_enter Try.func9, Try.ntmps9
  go_wp2_with fail
  have HBX := Lib.hid (show Box ((w.alloc (.cells #[.int .i64 m, .int .i64 wd, .int .i64 ro, .int .i64 qu, .int .i64 st, .int .i64 sl, .int .i64 se, .int .i64 wa, .slice A n C, .bool tb, .slice A2 n2 C2] 25)).alloc (.cells #[.int .i64 0, .int .i64 0, .int .i64 0, .int .i64 0, .int .i64 0, .int .i64 0, .int .i64 0, .int .i64 0, .slice none 0 0, .bool false, .slice none 0 0] 25)).drew w.heap.size m wd ro qu st sl se wa A n C tb A2 n2 C2 from (Below.heap_alloc _ _ _ (by simp)).trans (heap_alloc_new w _))
  refine wp_region_held_drew (S := fun w' => Box w' w.heap.size m wd ro qu st sl se wa A n C tb A2 n2 C2) (by kernel_rfl) HBX.out (fun hHeld => ?_)
  refine wpAnyH_take (i := 0) (oi := ⟨some 8, _, _, _, _, _⟩) (v := ?va0) rfl (by kernel_rfl) (by kernel_rfl) (by kernel_rfl) (fun _ _ _ h => h) (Or.inl ⟨by rfl, ?hya0⟩) hHeld ?resta0
  case hya0 => (intro w hSw; go_simp; try (with_reducible rfl))
  try simp only [Act.put, List.setIfInBounds_toArray, List.set_cons_zero, List.set_cons_succ]
  refine wpAnyH_take (i := 1) (oi := ⟨some 9, _, _, _, _, _⟩) (v := ?va1) rfl (by kernel_rfl) (by kernel_rfl) (by kernel_rfl) (fun _ _ _ h => h) (Or.inl ⟨by rfl, ?hya1⟩) hHeld ?resta1
  case hya1 => (intro w hSw; obtain ⟨k0, k1, k2, k3, k4, k5, k6, k7, k8, k9, k10⟩ := Box.cells hSw; go_simp; try (with_reducible rfl))
  try simp only [Act.put, List.setIfInBounds_toArray, List.set_cons_zero, List.set_cons_succ]
  refine take_call (i := 2) (oi := ⟨some 10, _, _, _, _, _⟩) (v := .int .i64 (cl 0 2 m)) rfl (by kernel_rfl) (by kernel_rfl) (by kernel_rfl) (fun _ _ _ h => h) (by rfl) 24 #[.int .i64 m, .int .i64 0, .int .i64 2] (fun w => by go_simp) (fun w hSw => in_any m 0 2 w) hHeld ?_
  try simp only [Act.put, List.setIfInBounds_toArray, List.set_cons_zero, List.set_cons_succ]
  refine wpAnyH_take (i := 3) (oi := ⟨some 11, _, _, _, _, _⟩) (v := ?va3) rfl (by kernel_rfl) (by kernel_rfl) (by kernel_rfl) (fun _ _ _ h => h) (Or.inl ⟨by rfl, ?hya3⟩) hHeld ?resta3
  case hya3 => (intro w hSw; go_simp; try (with_reducible rfl))
  try simp only [Act.put, List.setIfInBounds_toArray, List.set_cons_zero, List.set_cons_succ]
  refine wpAnyH_take (i := 4) (oi := ⟨some 12, _, _, _, _, _⟩) (v := ?va4) rfl (by kernel_rfl) (by kernel_rfl) (by kernel_rfl) (fun _ _ _ h => h) (Or.inl ⟨by rfl, ?hya4⟩) hHeld ?resta4
  case hya4 => (intro w hSw; obtain ⟨k0, k1, k2, k3, k4, k5, k6, k7, k8, k9, k10⟩ := Box.cells hSw; go_simp; try (with_reducible rfl))
  try simp only [Act.put, List.setIfInBounds_toArray, List.set_cons_zero, List.set_cons_succ]
  refine take_call (i := 5) (oi := ⟨some 13, _, _, _, _, _⟩) (v := .int .i64 (cl 1 2 wd)) rfl (by kernel_rfl) (by kernel_rfl) (by kernel_rfl) (fun _ _ _ h => h) (by rfl) 24 #[.int .i64 wd, .int .i64 1, .int .i64 2] (fun w => by go_simp) (fun w hSw => in_any wd 1 2 w) hHeld ?_
  try simp only [Act.put, List.setIfInBounds_toArray, List.set_cons_zero, List.set_cons_succ]
  refine wpAnyH_take (i := 6) (oi := ⟨some 14, _, _, _, _, _⟩) (v := ?va6) rfl (by kernel_rfl) (by kernel_rfl) (by kernel_rfl) (fun _ _ _ h => h) (Or.inl ⟨by rfl, ?hya6⟩) hHeld ?resta6
  case hya6 => (intro w hSw; go_simp; try (with_reducible rfl))
  try simp only [Act.put, List.setIfInBounds_toArray, List.set_cons_zero, List.set_cons_succ]
  refine wpAnyH_take (i := 7) (oi := ⟨some 15, _, _, _, _, _⟩) (v := ?va7) rfl (by kernel_rfl) (by kernel_rfl) (by kernel_rfl) (fun _ _ _ h => h) (Or.inl ⟨by rfl, ?hya7⟩) hHeld ?resta7
  case hya7 => (intro w hSw; obtain ⟨k0, k1, k2, k3, k4, k5, k6, k7, k8, k9, k10⟩ := Box.cells hSw; go_simp; try (with_reducible rfl))
  try simp only [Act.put, List.setIfInBounds_toArray, List.set_cons_zero, List.set_cons_succ]
  refine take_call (i := 8) (oi := ⟨some 16, _, _, _, _, _⟩) (v := .int .i64 (cl 2 8 ro)) rfl (by kernel_rfl) (by kernel_rfl) (by kernel_rfl) (fun _ _ _ h => h) (by rfl) 24 #[.int .i64 ro, .int .i64 2, .int .i64 8] (fun w => by go_simp) (fun w hSw => in_any ro 2 8 w) hHeld ?_
  try simp only [Act.put, List.setIfInBounds_toArray, List.set_cons_zero, List.set_cons_succ]
  refine wpAnyH_take (i := 9) (oi := ⟨some 17, _, _, _, _, _⟩) (v := ?va9) rfl (by kernel_rfl) (by kernel_rfl) (by kernel_rfl) (fun _ _ _ h => h) (Or.inl ⟨by rfl, ?hya9⟩) hHeld ?resta9
  case hya9 => (intro w hSw; go_simp; try (with_reducible rfl))
  try simp only [Act.put, List.setIfInBounds_toArray, List.set_cons_zero, List.set_cons_succ]
  refine wpAnyH_take (i := 10) (oi := ⟨some 18, _, _, _, _, _⟩) (v := ?va10) rfl (by kernel_rfl) (by kernel_rfl) (by kernel_rfl) (fun _ _ _ h => h) (Or.inl ⟨by rfl, ?hya10⟩) hHeld ?resta10
  case hya10 => (intro w hSw; obtain ⟨k0, k1, k2, k3, k4, k5, k6, k7, k8, k9, k10⟩ := Box.cells hSw; go_simp; try (with_reducible rfl))
  try simp only [Act.put, List.setIfInBounds_toArray, List.set_cons_zero, List.set_cons_succ]
  refine take_call (i := 11) (oi := ⟨some 19, _, _, _, _, _⟩) (v := .int .i64 (cl 1 4 qu)) rfl (by kernel_rfl) (by kernel_rfl) (by kernel_rfl) (fun _ _ _ h => h) (by rfl) 24 #[.int .i64 qu, .int .i64 1, .int .i64 4] (fun w => by go_simp) (fun w hSw => in_any qu 1 4 w) hHeld ?_
  try simp only [Act.put, List.setIfInBounds_toArray, List.set_cons_zero, List.set_cons_succ]
  refine wpAnyH_take (i := 12) (oi := ⟨some 20, _, _, _, _, _⟩) (v := ?va12) rfl (by kernel_rfl) (by kernel_rfl) (by kernel_rfl) (fun _ _ _ h => h) (Or.inl ⟨by rfl, ?hya12⟩) hHeld ?resta12
  case hya12 => (intro w hSw; go_simp; try (with_reducible rfl))
  try simp only [Act.put, List.setIfInBounds_toArray, List.set_cons_zero, List.set_cons_succ]
  refine wpAnyH_take (i := 13) (oi := ⟨some 21, _, _, _, _, _⟩) (v := ?va13) rfl (by kernel_rfl) (by kernel_rfl) (by kernel_rfl) (fun _ _ _ h => h) (Or.inl ⟨by rfl, ?hya13⟩) hHeld ?resta13
  case hya13 => (intro w hSw; obtain ⟨k0, k1, k2, k3, k4, k5, k6, k7, k8, k9, k10⟩ := Box.cells hSw; go_simp; try (with_reducible rfl))
  try simp only [Act.put, List.setIfInBounds_toArray, List.set_cons_zero, List.set_cons_succ]
  refine take_call (i := 14) (oi := ⟨some 22, _, _, _, _, _⟩) (v := .int .i64 (cl 1 4 st)) rfl (by kernel_rfl) (by kernel_rfl) (by kernel_rfl) (fun _ _ _ h => h) (by rfl) 24 #[.int .i64 st, .int .i64 1, .int .i64 4] (fun w => by go_simp) (fun w hSw => in_any st 1 4 w) hHeld ?_
  try simp only [Act.put, List.setIfInBounds_toArray, List.set_cons_zero, List.set_cons_succ]
  refine wpAnyH_take (i := 15) (oi := ⟨some 23, _, _, _, _, _⟩) (v := ?va15) rfl (by kernel_rfl) (by kernel_rfl) (by kernel_rfl) (fun _ _ _ h => h) (Or.inl ⟨by rfl, ?hya15⟩) hHeld ?resta15
  case hya15 => (intro w hSw; go_simp; try (with_reducible rfl))
  try simp only [Act.put, List.setIfInBounds_toArray, List.set_cons_zero, List.set_cons_succ]
  refine wpAnyH_take (i := 16) (oi := ⟨some 24, _, _, _, _, _⟩) (v := ?va16) rfl (by kernel_rfl) (by kernel_rfl) (by kernel_rfl) (fun _ _ _ h => h) (Or.inl ⟨by rfl, ?hya16⟩) hHeld ?resta16
  case hya16 => (intro w hSw; obtain ⟨k0, k1, k2, k3, k4, k5, k6, k7, k8, k9, k10⟩ := Box.cells hSw; go_simp; try (with_reducible rfl))
  try simp only [Act.put, List.setIfInBounds_toArray, List.set_cons_zero, List.set_cons_succ]
  refine take_call (i := 17) (oi := ⟨some 25, _, _, _, _, _⟩) (v := .int .i64 (cl 2 6 sl)) rfl (by kernel_rfl) (by kernel_rfl) (by kernel_rfl) (fun _ _ _ h => h) (by rfl) 24 #[.int .i64 sl, .int .i64 2, .int .i64 6] (fun w => by go_simp) (fun w hSw => in_any sl 2 6 w) hHeld ?_
  try simp only [Act.put, List.setIfInBounds_toArray, List.set_cons_zero, List.set_cons_succ]
  refine wpAnyH_take (i := 18) (oi := ⟨some 26, _, _, _, _, _⟩) (v := ?va18) rfl (by kernel_rfl) (by kernel_rfl) (by kernel_rfl) (fun _ _ _ h => h) (Or.inl ⟨by rfl, ?hya18⟩) hHeld ?resta18
  case hya18 => (intro w hSw; go_simp; try (with_reducible rfl))
  try simp only [Act.put, List.setIfInBounds_toArray, List.set_cons_zero, List.set_cons_succ]
  refine wpAnyH_take (i := 19) (oi := ⟨some 27, _, _, _, _, _⟩) (v := ?va19) rfl (by kernel_rfl) (by kernel_rfl) (by kernel_rfl) (fun _ _ _ h => h) (Or.inl ⟨by rfl, ?hya19⟩) hHeld ?resta19
  case hya19 => (intro w hSw; obtain ⟨k0, k1, k2, k3, k4, k5, k6, k7, k8, k9, k10⟩ := Box.cells hSw; go_simp; try (with_reducible rfl))
  try simp only [Act.put, List.setIfInBounds_toArray, List.set_cons_zero, List.set_cons_succ]
  refine take_call (i := 20) (oi := ⟨some 28, _, _, _, _, _⟩) (v := .int .i64 (cl 1 4 se)) rfl (by kernel_rfl) (by kernel_rfl) (by kernel_rfl) (fun _ _ _ h => h) (by rfl) 24 #[.int .i64 se, .int .i64 1, .int .i64 4] (fun w => by go_simp) (fun w hSw => in_any se 1 4 w) hHeld ?_
  try simp only [Act.put, List.setIfInBounds_toArray, List.set_cons_zero, List.set_cons_succ]
  refine wpAnyH_take (i := 21) (oi := ⟨some 29, _, _, _, _, _⟩) (v := ?va21) rfl (by kernel_rfl) (by kernel_rfl) (by kernel_rfl) (fun _ _ _ h => h) (Or.inl ⟨by rfl, ?hya21⟩) hHeld ?resta21
  case hya21 => (intro w hSw; go_simp; try (with_reducible rfl))
  try simp only [Act.put, List.setIfInBounds_toArray, List.set_cons_zero, List.set_cons_succ]
  refine wpAnyH_take (i := 22) (oi := ⟨some 30, _, _, _, _, _⟩) (v := ?va22) rfl (by kernel_rfl) (by kernel_rfl) (by kernel_rfl) (fun _ _ _ h => h) (Or.inl ⟨by rfl, ?hya22⟩) hHeld ?resta22
  case hya22 => (intro w hSw; obtain ⟨k0, k1, k2, k3, k4, k5, k6, k7, k8, k9, k10⟩ := Box.cells hSw; go_simp; try (with_reducible rfl))
  try simp only [Act.put, List.setIfInBounds_toArray, List.set_cons_zero, List.set_cons_succ]
  refine take_call (i := 23) (oi := ⟨some 31, _, _, _, _, _⟩) (v := .int .i64 (cl 1 2 wa)) rfl (by kernel_rfl) (by kernel_rfl) (by kernel_rfl) (fun _ _ _ h => h) (by rfl) 24 #[.int .i64 wa, .int .i64 1, .int .i64 2] (fun w => by go_simp) (fun w hSw => in_any wa 1 2 w) hHeld ?_
  try simp only [Act.put, List.setIfInBounds_toArray, List.set_cons_zero, List.set_cons_succ]
  refine wpAnyH_take (i := 24) (oi := ⟨some 32, _, _, _, _, _⟩) (v := ?va24) rfl (by kernel_rfl) (by kernel_rfl) (by kernel_rfl) (fun _ _ _ h => h) (Or.inl ⟨by rfl, ?hya24⟩) hHeld ?resta24
  case hya24 => (intro w hSw; go_simp; try (with_reducible rfl))
  try simp only [Act.put, List.setIfInBounds_toArray, List.set_cons_zero, List.set_cons_succ]
  refine wpAnyH_take (i := 25) (oi := ⟨some 33, _, _, _, _, _⟩) (v := ?va25) rfl (by kernel_rfl) (by kernel_rfl) (by kernel_rfl) (fun _ _ _ h => h) (Or.inl ⟨by rfl, ?hya25⟩) hHeld ?resta25
  case hya25 => (intro w hSw; obtain ⟨k0, k1, k2, k3, k4, k5, k6, k7, k8, k9, k10⟩ := Box.cells hSw; go_simp; try (with_reducible rfl))
  try simp only [Act.put, List.setIfInBounds_toArray, List.set_cons_zero, List.set_cons_succ]
  refine wpAnyH_take (i := 26) (oi := ⟨some 34, _, _, _, _, _⟩) (v := ?va26) rfl (by kernel_rfl) (by kernel_rfl) (by kernel_rfl) (fun _ _ _ h => h) (Or.inl ⟨by rfl, ?hya26⟩) hHeld ?resta26
  case hya26 => (intro w hSw; go_simp; try (with_reducible rfl))
  try simp only [Act.put, List.setIfInBounds_toArray, List.set_cons_zero, List.set_cons_succ]
  refine wpAnyH_ready (rs := [27]) (by kernel_rfl) (by simp) ?_
  refine AllReadyH.cons (o := ⟨some 3, _, _, _, _, _⟩) rfl (fun K hK => ?_) AllReadyH.nil
  go_simp
  refine hK.out _ _ (Box.below hHeld ((Below.refl _ _).alloc (Nat.le_refl _) _) (Box.lt hHeld)) (fun hHeld' => ?_)
  clear hK K hHeld
  have hHeld := hHeld'
  clear hHeld'
  try simp only [Act.put, List.setIfInBounds_toArray, List.set_cons_zero, List.set_cons_succ]
  refine wpAnyH_ready (rs := [28]) (by kernel_rfl) (by simp) ?_
  refine AllReadyH.cons (o := ⟨none, _, _, _, _, _⟩) rfl (fun K hK => ?_) AllReadyH.nil
  go_simp
  refine hK.out _ _ (Box.below HBX.out ((Below.refl _ _).alloc (Nat.le_refl _) _) (Box.lt HBX.out)) (fun hHeld' => ?_)
  clear hK K hHeld
  have hHeld := hHeld'
  clear hHeld'
  try simp only [Act.put, List.setIfInBounds_toArray, List.set_cons_zero, List.set_cons_succ]
  refine wpAnyH_done (by kernel_rfl) ?_ _
  clear hHeld HBX
  go_wp2_with fail
  go_loopw [42] (fun v wr => ∃ (k n8 C8 : Nat) (A8 : Option Addr), k ≤ n ∧ v = .int .i64 k ∧ Hid ((k ≤ 64 → n8 = k) ∧ (64 ≤ k → n8 = 64)) ∧ Hid (RI w wr m wd ro qu st sl se wa A n C tb A2 n2 C2 (cl 0 2 m) (cl 1 2 wd) (cl 2 8 ro) (cl 1 4 qu) (cl 1 4 st) (cl 2 6 sl) 2 (cl 1 2 wa) A8 n8 C8 none 0 0) ∧ Hid (wr.ownsRow (w.heap.size + 3) 3 1 (.slice A8 n8 C8) n8 ((((L.take k).take 64).map (cl 1 8)).map (Value.int .i64)))) (fun v _ => n - (intOf v).toNat)
  case atStart => exact ⟨0, 0, 0, none, by omega, rfl, Lib.hid ⟨fun _ => rfl, fun _ => by omega⟩, Lib.hid (RI.start w), Lib.hid (by simpa using World.ownsRow_nil _ _ _ _)⟩
  case round =>
    obtain ⟨k, n8, C8, A8, hk, rfl, hn8, HR, OW⟩ := hrel
    have hsz := HR.out.2.2.2.2
    by_cases hlt : k < n
    · have hkl : k < L.length := by rw [Hn.out]; exact hlt
      obtain ⟨b, off, rfl, hblt, hc⟩ := HL.out (by omega)
      have hcell := (HR.out.2.2.2.1.cell (p := ⟨b, off + k, none⟩) hblt).trans (hc k hkl)
      by_cases h64 : k < 64
      · obtain rfl : k = n8 := (hn8.out.1 (by omega)).symm
        have hz1 := la_snoc L k hkl h64
        obtain ⟨z, ez⟩ : ∃ z, L.getD k 0 = z := ⟨_, rfl⟩
        rw [ez] at hcell hz1
        have HZ := Lib.hid (show ((((L.take k).take 64).map (cl 1 8)).map (Value.int .i64)) ++ [Value.int .i64 (cl 1 8 z)] = ((((L.take (k + 1)).take 64).map (cl 1 8)).map (Value.int .i64)) by rw [snoc_map, hz1])
        have kd := (Box.cells HR.out.2.2.1).2.2.2.2.2.2.2.2.1
        have lD : w.heap.size + 1 + 1 < wr.heap.size := by omega
        clear ez hz1 hc hkl hn8
        go_wp2_with fail
        refine wp_region_held_drew (S := fun _ => True) (by kernel_rfl) trivial (fun hHeld => ?_)
        refine wpAnyH_take (i := 0) (oi := ⟨some 49, _, _, _, _, _⟩) (v := ?vp0) rfl (by kernel_rfl) (by kernel_rfl) (by kernel_rfl) (fun _ _ _ h => h) (Or.inl ⟨by rfl, ?hyp0⟩) hHeld ?restp0
        case hyp0 => (intro w hSw; go_simp; try (with_reducible rfl))
        try simp only [Act.put, List.setIfInBounds_toArray, List.set_cons_zero, List.set_cons_succ]
        refine wpAnyH_take (i := 2) (oi := ⟨some 51, _, _, _, _, _⟩) (v := ?vp2) rfl (by kernel_rfl) (by kernel_rfl) (by kernel_rfl) (fun _ _ _ h => h) (Or.inl ⟨by rfl, ?hyp2⟩) hHeld ?restp2
        case hyp2 => (intro w hSw; go_simp; try (with_reducible rfl))
        try simp only [Act.put, List.setIfInBounds_toArray, List.set_cons_zero, List.set_cons_succ]
        refine take_call (i := 3) (oi := ⟨some 52, _, _, _, _, _⟩) (v := .int .i64 (cl 1 8 z)) rfl (by kernel_rfl) (by kernel_rfl) (by kernel_rfl) (fun _ _ _ h => h) (by rfl) 24 #[.int .i64 z, .int .i64 1, .int .i64 8] (fun w => by go_simp) (fun w hSw => in_any z 1 8 w) hHeld ?_
        try simp only [Act.put, List.setIfInBounds_toArray, List.set_cons_zero, List.set_cons_succ]
        refine wpAnyH_ready (rs := [1, 4]) (by kernel_rfl) (by simp) ?_
        refine AllReadyH.cons (o := ⟨some 50, _, _, _, _, _⟩) rfl (fun K hK => ?_) (AllReadyH.cons (o := ⟨some 53, _, _, _, _, _⟩) rfl (fun K hK => ?_) AllReadyH.nil)
        · go_simp
          refine hK.out _ _ trivial (fun hHeld' => ?_)
          clear hK K hHeld
          have hHeld := hHeld'
          clear hHeld'
          try simp only [Act.put, List.setIfInBounds_toArray, List.set_cons_zero, List.set_cons_succ]
          refine wpAnyH_ready (rs := [4]) (by kernel_rfl) (by simp) ?_
          refine AllReadyH.cons (o := ⟨some 53, _, _, _, _, _⟩) rfl (fun K hK => ?_) AllReadyH.nil
          go_simp
          refine hK.out _ _ trivial (fun hHeld' => ?_)
          clear hK K hHeld
          have hHeld := hHeld'
          clear hHeld'
          try simp only [Act.put, List.setIfInBounds_toArray, List.set_cons_zero, List.set_cons_succ]
          refine wpAnyH_ready (rs := [5]) (by kernel_rfl) (by simp) ?_
          refine AllReadyH.cons (o := ⟨some 54, _, _, _, _, _⟩) rfl (fun K hK => ?_) AllReadyH.nil
          refine step_append_lies _ (by rfl) _ _ _ (by rfl) (w.heap.size + 3) 3 i8 _ 1 8 Try.underlying22 (HI8.out.1) (HI8.out.2.1) (HI8.out.2.2.1) (HI8.out.2.2.2) rfl (by omega) _ k _ (by rfl) ((OW.out.alloc _).drew) ⟨wr.heap.size, 0, none⟩ 1 1 [.int .i64 (cl 1 8 z)] (by rfl) (by rfl) (World.news_of_block (cs := #[.int .i64 (cl 1 8 z)]) (t := 3) (fr := (0, 0)) (heap_alloc_new wr _)) (by simp [Value.oneCell']) (by omega) (by unfold maxLen; omega) (by omega) (by simp; omega) (wr.heap.size + 1) (by simp) ?_
          intro gg cap w1 hown1 hgrow hat hlt1
          have RA := Lib.hid (HR.out.app _ hgrow (fun q hq => (OW.out.lt q hq).1))
          have OA := Lib.hid hown1
          clear hown1 hgrow hat
          have kc := (Box.cells RA.out.2.2.1).2.2.2.2.2.2.2.2.1
          have kf := Box.frozen RA.out.2.2.1 8
          refine hK.out _ _ trivial (fun hHeld' => ?_)
          clear hK K hHeld
          have hHeld := hHeld'
          clear hHeld'
          try simp only [Act.put, List.setIfInBounds_toArray, List.set_cons_zero, List.set_cons_succ]
          refine wpAnyH_take (i := 6) (oi := ⟨some 55, _, _, _, _, _⟩) (v := ?vpy6) rfl (by kernel_rfl) (by kernel_rfl) (by kernel_rfl) (fun _ _ _ h => h) (Or.inl ⟨by rfl, ?hypy6⟩) hHeld ?restpy6
          case hypy6 => (intro w hSw; go_simp; try (with_reducible rfl))
          try simp only [Act.put, List.setIfInBounds_toArray, List.set_cons_zero, List.set_cons_succ]
          refine wpAnyH_ready (rs := [7]) (by kernel_rfl) (by simp) ?_
          refine AllReadyH.cons (o := ⟨none, _, _, _, _, _⟩) rfl (fun K hK => ?_) AllReadyH.nil
          go_simp
          refine hK.out _ _ trivial (fun hHeld' => ?_)
          clear hK K hHeld
          have hHeld := hHeld'
          clear hHeld'
          try simp only [Act.put, List.setIfInBounds_toArray, List.set_cons_zero, List.set_cons_succ]
          refine wpAnyH_done (by kernel_rfl) ?_ _
          clear kc kf hHeld
          go_wp2
          go_roundw
          case rel => exact ⟨k + 1, k + 1, cap, some ⟨gg, 0, none⟩, by omega, by go_num, Lib.hid ⟨fun _ => rfl, fun _ => by omega⟩, Lib.hid (RA.out.set8 _ _ _), Lib.hid (by rw [← HZ.out]; exact owns_set OA.out _ (by show w.heap.size + 1 + 1 < _; omega) _)⟩
          case measure => simp [intOf]; omega
        · go_simp
          refine hK.out _ _ trivial (fun hHeld' => ?_)
          clear hK K hHeld
          have hHeld := hHeld'
          clear hHeld'
          try simp only [Act.put, List.setIfInBounds_toArray, List.set_cons_zero, List.set_cons_succ]
          refine wpAnyH_ready (rs := [1]) (by kernel_rfl) (by simp) ?_
          refine AllReadyH.cons (o := ⟨some 50, _, _, _, _, _⟩) rfl (fun K hK => ?_) AllReadyH.nil
          go_simp
          refine hK.out _ _ trivial (fun hHeld' => ?_)
          clear hK K hHeld
          have hHeld := hHeld'
          clear hHeld'
          try simp only [Act.put, List.setIfInBounds_toArray, List.set_cons_zero, List.set_cons_succ]
          refine wpAnyH_ready (rs := [5]) (by kernel_rfl) (by simp) ?_
          refine AllReadyH.cons (o := ⟨some 54, _, _, _, _, _⟩) rfl (fun K hK => ?_) AllReadyH.nil
          refine step_append_lies _ (by rfl) _ _ _ (by rfl) (w.heap.size + 3) 3 i8 _ 1 8 Try.underlying22 (HI8.out.1) (HI8.out.2.1) (HI8.out.2.2.1) (HI8.out.2.2.2) rfl (by omega) _ k _ (by rfl) ((OW.out.alloc _).drew) ⟨wr.heap.size, 0, none⟩ 1 1 [.int .i64 (cl 1 8 z)] (by rfl) (by rfl) (World.news_of_block (cs := #[.int .i64 (cl 1 8 z)]) (t := 3) (fr := (0, 0)) (heap_alloc_new wr _)) (by simp [Value.oneCell']) (by omega) (by unfold maxLen; omega) (by omega) (by simp; omega) (wr.heap.size + 1) (by simp) ?_
          intro gg cap w1 hown1 hgrow hat hlt1
          have RA := Lib.hid (HR.out.app _ hgrow (fun q hq => (OW.out.lt q hq).1))
          have OA := Lib.hid hown1
          clear hown1 hgrow hat
          have kc := (Box.cells RA.out.2.2.1).2.2.2.2.2.2.2.2.1
          have kf := Box.frozen RA.out.2.2.1 8
          refine hK.out _ _ trivial (fun hHeld' => ?_)
          clear hK K hHeld
          have hHeld := hHeld'
          clear hHeld'
          try simp only [Act.put, List.setIfInBounds_toArray, List.set_cons_zero, List.set_cons_succ]
          refine wpAnyH_take (i := 6) (oi := ⟨some 55, _, _, _, _, _⟩) (v := ?vpx6) rfl (by kernel_rfl) (by kernel_rfl) (by kernel_rfl) (fun _ _ _ h => h) (Or.inl ⟨by rfl, ?hypx6⟩) hHeld ?restpx6
          case hypx6 => (intro w hSw; go_simp; try (with_reducible rfl))
          try simp only [Act.put, List.setIfInBounds_toArray, List.set_cons_zero, List.set_cons_succ]
          refine wpAnyH_ready (rs := [7]) (by kernel_rfl) (by simp) ?_
          refine AllReadyH.cons (o := ⟨none, _, _, _, _, _⟩) rfl (fun K hK => ?_) AllReadyH.nil
          go_simp
          refine hK.out _ _ trivial (fun hHeld' => ?_)
          clear hK K hHeld
          have hHeld := hHeld'
          clear hHeld'
          try simp only [Act.put, List.setIfInBounds_toArray, List.set_cons_zero, List.set_cons_succ]
          refine wpAnyH_done (by kernel_rfl) ?_ _
          clear kc kf hHeld
          go_wp2
          go_roundw
          case rel => exact ⟨k + 1, k + 1, cap, some ⟨gg, 0, none⟩, by omega, by go_num, Lib.hid ⟨fun _ => rfl, fun _ => by omega⟩, Lib.hid (RA.out.set8 _ _ _), Lib.hid (by rw [← HZ.out]; exact owns_set OA.out _ (by show w.heap.size + 1 + 1 < _; omega) _)⟩
          case measure => simp [intOf]; omega
      · have hp := la_past L k (by omega)
        have HZ := Lib.hid (show ((((L.take k).take 64).map (cl 1 8)).map (Value.int .i64)) = ((((L.take (k + 1)).take 64).map (cl 1 8)).map (Value.int .i64)) by rw [hp])
        clear hp hc hkl
        go_wp2
        go_roundw
        case rel => exact ⟨k + 1, n8, C8, A8, by omega, by go_num, Lib.hid ⟨fun _ => by omega, fun _ => hn8.out.2 (by omega)⟩, HR, Lib.hid (by rw [← HZ.out]; exact OW.out)⟩
        case measure => simp [intOf]; omega
    · have hall : ((L.take k).take 64).map (cl 1 8) = la L := by
        have e : L.take k = L := List.take_of_length_le (by rw [Hn.out]; omega)
        rw [e]; rfl
      rw [hall] at OW
      have SL := Lib.hid (Sl.owned OW.out)
      have hA8 := Lib.hid (owned_at OW.out)
      have hlen := Lib.hid (show (la L).length = n8 by have := OW.out.1; simpa using this)
      have k10 := (Box.cells HR.out.1).2.2.2.2.2.2.2.2.2.2
      clear hall OW hn8
      obtain ⟨B2, eB⟩ : ∃ x, wr.heap.size = x := ⟨_, rfl⟩
      have HA8 : Hid (∀ b off, A8 = some ⟨b, off, none⟩ → w.heap.size + 3 ≤ b ∧ b < B2) := by rw [← eB]; exact hA8
      have hB2 : w.heap.size + 3 ≤ B2 := by omega
      have hB3 : B2 ≤ wr.heap.size := by omega
      clear hA8 eB hsz
      go_wp2
      go_loopw [60] (fun v wr => ∃ (k n10 C10 : Nat) (A10 : Option Addr), k ≤ n2 ∧ v = .int .i64 k ∧ Hid ((k ≤ 64 → n10 = k) ∧ (64 ≤ k → n10 = 64)) ∧ Hid (RI w wr m wd ro qu st sl se wa A n C tb A2 n2 C2 (cl 0 2 m) (cl 1 2 wd) (cl 2 8 ro) (cl 1 4 qu) (cl 1 4 st) (cl 2 6 sl) 2 (cl 1 2 wa) A8 n8 C8 A10 n10 C10) ∧ Hid (wr.ownsRow B2 30 1 (.slice A10 n10 C10) n10 (((T.take k).take 64).map (Value.int .u32))) ∧ Hid (Sl wr .i64 A8 (la L)) ∧ B2 ≤ wr.heap.size) (fun v _ => n2 - (intOf v).toNat)
      case atStart => exact ⟨0, 0, 0, none, by omega, rfl, Lib.hid ⟨fun _ => rfl, fun _ => by omega⟩, HR, Lib.hid (by simpa using World.ownsRow_nil _ _ _ _), SL, hB3⟩
      case round =>
        clear HR SL hB3 k10
        obtain ⟨k, n10, C10, A10, hk, rfl, hn10, HR, OT, SL, hB3⟩ := hrel
        have hsz := HR.out.2.2.2.2
        by_cases hlt : k < n2
        · have hkl : k < T.length := by rw [H2.out]; exact hlt
          obtain ⟨b, off, rfl, hblt, hc⟩ := HT.out (by omega)
          have hcell := (HR.out.2.2.2.1.cell (p := ⟨b, off + k, none⟩) hblt).trans (hc k hkl)
          by_cases h64 : k < 64
          · obtain rfl : k = n10 := (hn10.out.1 (by omega)).symm
            have hz1 := ta_snoc T k hkl h64
            obtain ⟨z, ez⟩ : ∃ z, T.getD k 0 = z := ⟨_, rfl⟩
            rw [ez] at hcell hz1
            have hzz : (((T.take k).take 64).map (Value.int .u32)) ++ [Value.int .u32 z] = (((T.take (k + 1)).take 64).map (Value.int .u32)) := by rw [snoc_map, hz1]
            obtain ⟨X, eX⟩ : ∃ X, (((T.take k).take 64).map (Value.int .u32)) = X := ⟨_, rfl⟩
            rw [eX] at OT hzz
            have HZ := Lib.hid hzz
            clear hzz eX
            have kd := (Box.cells HR.out.2.2.1).2.2.2.2.2.2.2.2.2.2
            have lD : w.heap.size + 1 + 1 < wr.heap.size := by omega
            clear ez hz1 hc hkl hn10
            go_wp2_with (at_builtin; refine wpList_append_lies _ rfl _ _ _ rfl B2 30 i4 _ 1 4 Try.underlying23 (HI4.out.1) (HI4.out.2.1) (HI4.out.2.2.1) (HI4.out.2.2.2) rfl (by omega) _ k _ rfl (OT.out.alloc _) ⟨wr.heap.size, 0, none⟩ 1 1 [.int .u32 z] rfl rfl ?hnews ?h1 (by omega) ?h63 ?hbytes ?hbase (wr.heap.size + 1) ?hH ?_)
            case hnews => exact World.news_of_block (cs := #[.int .u32 z]) (t := 30) (fr := (0, 0)) (heap_alloc_new wr _)
            case h1 => simp [Value.oneCell']
            case h63 => unfold maxLen; omega
            case hbytes => omega
            case hbase => simp; omega
            case hH => simp
            intro gg cap w1 hown1 hgrow hat hlt1
            have RA := Lib.hid (HR.out.appP _ hgrow (fun q hq => Nat.le_trans hB2 (OT.out.lt q hq).1))
            have SA := Lib.hid (SL.out.appP _ hgrow B2 (fun q hq => (OT.out.lt q hq).1) (fun b off e => (HA8.out b off e).2))
            have HZ2 := Lib.hid (Nat.le_of_lt (Nat.lt_of_le_of_lt (owned_at hown1 gg 0 rfl).1 (owned_at hown1 gg 0 rfl).2))
            have OA := Lib.hid hown1
            clear hown1 hgrow hat
            have kc := (Box.cells RA.out.2.2.1).2.2.2.2.2.2.2.2.2.2
            have kf := Box.frozen RA.out.2.2.1 10
            go_wp2
            clear kc kf
            go_roundw
            case rel => exact ⟨k + 1, k + 1, cap, some ⟨gg, 0, none⟩, by omega, by go_num, Lib.hid ⟨fun _ => rfl, fun _ => by omega⟩, Lib.hid (RA.out.set10 _ _ _), Lib.hid (by rw [← HZ.out]; exact owns_set OA.out ⟨w.heap.size + 1 + 1, 10, none⟩ (by show w.heap.size + 1 + 1 < B2; omega) _), Lib.hid (SA.out.far _ _ (fun b off e => by have := (HA8.out b off e).1; show b ≠ w.heap.size + 1 + 1; omega)), by simp; exact HZ2.out⟩
            case measure => simp [intOf]; omega
          · have hp := ta_past T k (by omega)
            have HZ := Lib.hid (show (((T.take k).take 64).map (Value.int .u32)) = (((T.take (k + 1)).take 64).map (Value.int .u32)) by rw [hp])
            clear hp hc hkl
            go_wp2
            go_roundw
            case rel => exact ⟨k + 1, n10, C10, A10, by omega, by go_num, Lib.hid ⟨fun _ => by omega, fun _ => hn10.out.2 (by omega)⟩, HR, Lib.hid (by rw [← HZ.out]; exact OT.out), SL, hB3⟩
            case measure => simp [intOf]; omega
        · have hall : (T.take k).take 64 = ta T := by
            have e : T.take k = T := List.take_of_length_le (by rw [H2.out]; omega)
            rw [e]; rfl
          rw [hall] at OT
          have ST := Lib.hid (Sl.owned OT.out)
          have hA10 := Lib.hid (owned_at OT.out)
          have hlen2 := Lib.hid (show (ta T).length = n10 by have := OT.out.1; simpa using this)
          clear hall OT hn10
          obtain ⟨k0, k1, k2, k3, k4, k5, k6, k7, k8, k9, k10⟩ := Box.cells HR.out.2.2.1
          go_wp2_with (refine store_box (o := ⟨none, Op.store 25 _ _, _, _, _, _⟩) rfl _ _ rfl (w.heap.size + 1) _ rfl rfl _ HR.out.2.1 rfl rfl box_one7 ?_)
          intro w2 hbx2 hoth hsz2 hbel
          obtain ⟨q0, q1, q2, q3, q4, q5, q6, q7, q8, q9, q10⟩ := Box.cells hbx2
          clear k0 k1 k2 k3 k4 k5 k6 k7 k8 k9 k10
          go_wp2
          refine bodyPost_ret (v := .agg #[.int .i64 (cl 0 2 m), .int .i64 (cl 1 2 wd), .int .i64 (cl 2 8 ro), .int .i64 (cl 1 4 qu), .int .i64 (cl 1 4 st), .int .i64 (cl 2 6 sl), .int .i64 2, .int .i64 (cl 1 2 wa), .slice A8 n8 C8, .bool tb, .slice A10 n10 C10]) (by simp [results, Try.results9, go_sem, q0, q1, q2, q3, q4, q5, q6, q7, q8, q9, q10]) rfl ?_
          have hse : cs se = 2 := by unfold cs; rw [if_pos (by simpa using hz)]
          unfold RCP
          rw [hse]
          have e1 := la_len L
          have e2 := ta_len T
          have e3 : Nat.min L.length 64 = min L.length 64 := rfl
          have e4 : Nat.min T.length 64 = min T.length 64 := rfl
          have l1 := hlen.out
          have l2 := hlen2.out
          refine ⟨A8, A10, n8, C8, n10, C10, rfl, l1, l2, by omega, by omega, SL.out.apart hoth hsz2 (fun b off e _ => ?_), ST.out.apart hoth hsz2 (fun b off e _ => ?_), hbel _ _ HR.out.2.2.2.1 (by omega), fun b off e => ?_, fun b off e => ?_⟩
          · have := HA8.out b off e; omega
          · have := hA10.out b off e; omega
          · have := HA8.out b off e; omega
          · have := hA10.out b off e; omega
end Go.Proofs.Ytfphdchpfhedfaa
