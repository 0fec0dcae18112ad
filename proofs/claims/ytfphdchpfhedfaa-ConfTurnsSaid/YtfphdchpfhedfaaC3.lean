/- Contract of conf.Clean at any shape. Conditions: the slices read as lists. -/
import Derived.Test.YtfphdchpfhedfaaC2
namespace Go.Proofs.Ytfphdchpfhedfaa
open Go.ChangeShapes Go.WideShapes Go.ChangeAt Go.RowKit
set_option linter.unusedVariables false
set_option maxHeartbeats 4000000 in
set_option maxRecDepth 100000 in
theorem clean_3 (m wd ro qu st sl se wa : Int) (A A2 : Option Addr) (n C n2 C2 : Nat) (L T : List Int) (tb : Bool) (w : World) (hn : L.length = n) (h2 : T.length = n2) (bn : n ≤ 9223372036854775807) (b2 : n2 ≤ 9223372036854775807)
    (hL : Sl w .i64 A L) (hT : Sl w .u32 A2 T) (se' : Int) (hz : (cl 1 4 se == 3) = true) :
    Calls Try.prog 12 #[.agg #[.int .i64 m, .int .i64 wd, .int .i64 ro, .int .i64 qu, .int .i64 st, .int .i64 sl, .int .i64 se, .int .i64 wa, .slice A n C, .bool tb, .slice A2 n2 C2]] w (CleanPost m wd ro qu st sl se wa tb L T w) := by
  obtain ⟨N, hN⟩ : ∃ N : Nat, N = Nat.min n 64 := ⟨_, rfl⟩
  obtain ⟨N2, hN2⟩ : ∃ N : Nat, N = Nat.min n2 64 := ⟨_, rfl⟩
  have e1 : (if (64 : Int) < (n : Int) then (64 : Int) else (n : Int)) = (N : Int) := by
    have : Nat.min n 64 = min n 64 := rfl
    split <;> omega
  have e2 : (if (64 : Int) < (n2 : Int) then (64 : Int) else (n2 : Int)) = (N2 : Int) := by
    have : Nat.min n2 64 = min n2 64 := rfl
    split <;> omega
  have c1 : N = Nat.min n N := by
    have : Nat.min n 64 = min n 64 := rfl
    have : Nat.min n N = min n N := rfl
    omega
  have c2 : N2 = Nat.min n2 N2 := by
    have : Nat.min n2 64 = min n2 64 := rfl
    have : Nat.min n2 N2 = min n2 N2 := rfl
    omega
  have d1 : N ≤ 64 := by have : Nat.min n 64 = min n 64 := rfl; omega
  have d2 : N2 ≤ 64 := by have : Nat.min n2 64 = min n2 64 := rfl; omega
  have HN := Lib.hid hN
  have HN2 := Lib.hid hN2
  have C1 := Lib.hid c1
  have C2' := Lib.hid c2
  have HL := Lib.hid hL
  have HT := Lib.hid hT
  have Hn := Lib.hid hn
  have H2 := Lib.hid h2
  clear hN hN2 c1 c2 hL hT hn h2
  have k1 := mk22 N (by omega)
  have k2 := mk23 N2 (by omega)
  go_enter Try.func12, Try.ntmps12
  go_wp2_with fail
  refine (bring_any _ m 0 2 _ (by decide) (by simp) (by simp)).mono ?_
  rintro e w' ⟨rfl, rfl⟩
  go_wp2_with fail
  refine (bring_any _ wd 1 2 _ (by decide) (by simp) (by simp)).mono ?_
  rintro e w' ⟨rfl, rfl⟩
  go_wp2_with fail
  refine (bring_any _ ro 2 8 _ (by decide) (by simp) (by simp)).mono ?_
  rintro e w' ⟨rfl, rfl⟩
  go_wp2_with fail
  refine (bring_any _ qu 1 4 _ (by decide) (by simp) (by simp)).mono ?_
  rintro e w' ⟨rfl, rfl⟩
  go_wp2_with fail
  refine (bring_any _ st 1 4 _ (by decide) (by simp) (by simp)).mono ?_
  rintro e w' ⟨rfl, rfl⟩
  go_wp2_with fail
  refine (bring_any _ sl 2 6 _ (by decide) (by simp) (by simp)).mono ?_
  rintro e w' ⟨rfl, rfl⟩
  go_wp2_with fail
  refine (bring_any _ se 1 4 _ (by decide) (by simp) (by simp)).mono ?_
  rintro e w' ⟨rfl, rfl⟩
  go_wp2_with fail
  refine (bring_any _ wa 1 2 _ (by decide) (by simp) (by simp)).mono ?_
  rintro e w' ⟨rfl, rfl⟩
  generalize hm : cl 0 2 m = m'
  generalize hwd : cl 1 2 wd = wd'
  generalize hro : cl 2 8 ro = ro'
  generalize hqu : cl 1 4 qu = qu'
  generalize hst : cl 1 4 st = st'
  generalize hsl : cl 2 6 sl = sl'
  generalize hwa : cl 1 2 wa = wa'
  have HH := Lib.hid (And.intro hm (And.intro hwd (And.intro hro (And.intro hqu (And.intro hst (And.intro hsl hwa))))))
  clear hm hwd hro hqu hst hsl hwa
  have hM : (L.take N).length = N := by have := C1.out; have := Hn.out; have : Nat.min n N = min n N := rfl; simp; omega
  have HM := Lib.hid hM
  clear hM
  go_wp2_with (first | (refine copy_made (o := ⟨some 43, _, _, _, _, _⟩) rfl _ _ 22 22 rfl 3 Try.underlying22 (by kernel_rfl) .i64 A L n C N (w.heap.size + 1 + 1) (by simp) C1.out Hn.out rfl rfl (by exact (HL.out.alloc _).alloc _) ?_))
  go_loopw [46] (fun v wr => ∃ k : Nat, k ≤ N ∧ v = .int .i64 k ∧ wr = (((w.alloc (.cells #[.int .i64 m', .int .i64 wd', .int .i64 ro', .int .i64 qu', .int .i64 st', .int .i64 sl', .int .i64 2, .int .i64 wa', .slice A n C, .bool tb, .slice A2 n2 C2] 25)).alloc (.cells #[.int .i64 0, .int .i64 0, .int .i64 0, .int .i64 0, .int .i64 0, .int .i64 0, .int .i64 0, .int .i64 0, .slice none 0 0, .bool false, .slice none 0 0] 25)).alloc (.cells (ar .i64 (mix 1 8 (L.take N) k)) 3))) (fun v _ => N - (intOf v).toNat)
  case atStart => exact ⟨0, by omega, rfl, by rw [mix_zero]⟩
  case round =>
    obtain ⟨k, hk, rfl, rfl⟩ := hrel
    by_cases hlt : k < N
    · have hcell := mix_at 1 8 (L.take N) k (by rw [HM.out]; exact hlt)
      have hset := mix_set 1 8 (L.take N) k (by rw [HM.out]; exact hlt)
      obtain ⟨z, ez⟩ : ∃ z, (L.take N).getD k 0 = z := ⟨_, rfl⟩
      rw [ez] at hcell hset
      have HS := Lib.hid hset
      clear ez hset
      go_wp2_with (go_at_call 25; refine (bring_any _ z 1 8 _ (by decide) (by exact (World.cell?_alloc_at _ _ _ _ (by simp)).trans hcell) (by exact World.frozen?_alloc_at _ _ _ _ (by simp))).mono ?_; rintro e w' ⟨rfl, rfl⟩)
      go_roundw
      case rel => exact ⟨k + 1, by omega, by go_num, by rw [HS.out]⟩
      case measure => simp [intOf]; omega
    · have hkN : k = N := by omega
      subst hkN
      have hall : mix 1 8 (L.take k) k = (L.take k).map (cl 1 8) := by
        have := mix_all 1 8 (L.take k); rw [HM.out] at this; exact this
      rw [hall]
      generalize hR : ar .i64 ((L.take k).map (cl 1 8)) = R
      have HR := Lib.hid hR
      clear hR hall
      go_wp2_with (first | (refine copy_made (o := ⟨some 63, _, _, _, _, _⟩) rfl _ _ 23 23 rfl 30 Try.underlying23 (by kernel_rfl) .u32 A2 T n2 C2 N2 (w.heap.size + 1 + 1 + 1) (by simp) C2'.out H2.out rfl rfl (by exact (((HT.out.alloc _).alloc _).alloc _)) ?_))
      refine bodyPost_ret (v := .agg #[.int .i64 m', .int .i64 wd', .int .i64 ro', .int .i64 qu', .int .i64 st', .int .i64 sl', .int .i64 2, .int .i64 wa', .slice (some ⟨w.heap.size + 1 + 1, 0, none⟩) k k, .bool tb, .slice (some ⟨w.heap.size + 1 + 1 + 1, 0, none⟩) N2 N2]) (by simp [results, Try.results12, go_sem]) rfl ?_
      have hh := HH.out
      obtain ⟨rfl, rfl, rfl, rfl, rfl, rfl, rfl⟩ := hh
      have hse : cs se = 2 := by unfold cs; rw [if_pos (by simpa using hz)]
      have q1 : Nat.min L.length 64 = k := by rw [Hn.out]; exact HN.out.symm
      have q2 : Nat.min T.length 64 = N2 := by rw [H2.out]; exact HN2.out.symm
      have t1 := take_min L n k Hn.out HN.out
      have t2 := take_min T n2 N2 H2.out HN2.out
      have hR := HR.out
      subst hR
      unfold CleanPost
      rw [hse, q1, q2, t1, t2]
      exact ⟨w.heap.size + 1 + 1, w.heap.size + 1 + 1 + 1, rfl, (Sl.fresh_at (by simp)).alloc _, Sl.fresh_at (by simp), by go_grown, by omega, by omega⟩
theorem clean_any (m wd ro qu st sl se wa : Int) (A A2 : Option Addr) (C C2 : Nat) (L T : List Int) (tb : Bool) (n n2 : Nat) (w : World) (hn : L.length = n) (h2 : T.length = n2) (bn : n ≤ 9223372036854775807) (b2 : n2 ≤ 9223372036854775807)
    (hL : Sl w .i64 A L) (hT : Sl w .u32 A2 T) :
    Calls Try.prog 12 #[.agg #[.int .i64 m, .int .i64 wd, .int .i64 ro, .int .i64 qu, .int .i64 st, .int .i64 sl, .int .i64 se, .int .i64 wa, .slice A n C, .bool tb, .slice A2 n2 C2]] w (CleanPost m wd ro qu st sl se wa tb L T w) := by
  cases hz : (cl 1 4 se == 3) with
  | true => exact clean_3 m wd ro qu st sl se wa A A2 n C n2 C2 L T tb w hn h2 bn b2 hL hT 0 hz
  | false => exact clean_x m wd ro qu st sl se wa A A2 n C n2 C2 L T tb w hn h2 bn b2 hL hT 0 hz
end Go.Proofs.Ytfphdchpfhedfaa
