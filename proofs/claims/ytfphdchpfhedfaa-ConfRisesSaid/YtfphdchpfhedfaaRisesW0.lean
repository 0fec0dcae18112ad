/- Plain facts for the statement ConfRises. No conditions. -/
import Derived.Test.YtfphdchpfhedfaaC9
import Derived.Test.YtfphdchpfhedfaaC10
import Derived.Test.YtfphdchpfhedfaaRc3
namespace Go.Proofs.Ytfphdchpfhedfaa
open Go.ChangeShapes Go.WideShapes Go.ChangeAt Go.RowKit
set_option linter.unusedVariables false
theorem mul_le (a b c d : Int) (h : a ≤ b) (k : c ≤ d) (ha : 0 ≤ a) (hc : 0 ≤ c) : a * c ≤ b * d := Int.mul_le_mul h k hc (by omega)
theorem bo_mono (st sl se wa mo st' sl' se' wa' mo' : Int) (a1 : 0 ≤ st) (b1 : st ≤ st') (a2 : 0 ≤ sl) (b2 : sl ≤ sl') (a3 : 0 ≤ se) (b3 : se ≤ se') (a4 : 0 ≤ wa) (b4 : wa ≤ wa') (a5 : 0 ≤ mo) (b5 : mo ≤ mo') : bo st sl se wa mo ≤ bo st' sl' se' wa' mo' := by
  unfold bo
  have h1 := mul_le se se' wa wa' b3 b4 a3 a4
  have h0 := Int.mul_nonneg a3 a4
  have h2 := mul_le (sl + st + se * wa + 4) (sl' + st' + se' * wa' + 4) (mo + 1) (mo' + 1) (by omega) (by omega) (by omega) (by omega)
  have h3 := Int.mul_nonneg (show 0 ≤ sl + st + se * wa + 4 by omega) (show 0 ≤ mo + 1 by omega)
  have h4 := mul_le _ _ (st + 3) (st' + 3) h2 (by omega) h3 (by omega)
  omega
theorem dr_mono (st sl se wa mo st' sl' se' wa' mo' : Int) (a1 : 0 ≤ st) (b1 : st ≤ st') (a2 : 0 ≤ sl) (b2 : sl ≤ sl') (a3 : 0 ≤ se) (b3 : se ≤ se') (a4 : 0 ≤ wa) (b4 : wa ≤ wa') (a5 : 0 ≤ mo) (b5 : mo ≤ mo') : dr st sl se wa mo ≤ dr st' sl' se' wa' mo' := by
  unfold dr
  have h1 := mul_le se se' wa wa' b3 b4 a3 a4
  have h0 := Int.mul_nonneg a3 a4
  have h2 := mul_le (2 * (sl + st + se * wa + 4)) (2 * (sl' + st' + se' * wa' + 4)) (mo + 1) (mo' + 1) (by omega) (by omega) (by omega) (by omega)
  have h3 := Int.mul_nonneg (show 0 ≤ 2 * (sl + st + se * wa + 4) by omega) (show 0 ≤ mo + 1 by omega)
  have h4 := mul_le _ _ (st + se * wa + 2) (st' + se' * wa' + 2) h2 (by omega) h3 (by omega)
  omega
theorem foldl_mono : ∀ (l : List Int) (a b : Int), a ≤ b → l.foldl (fun a b => if a < b then b else a) a ≤ l.foldl (fun a b => if a < b then b else a) b
  | [], _, _, h => h
  | x :: l, a, b, h => by
    rw [List.foldl_cons, List.foldl_cons]
    exact foldl_mono l _ _ (by split <;> split <;> omega)
/-- with an 8 among the requests the longest one is 8 -/
theorem mov_eight (L : List Int) (k : Nat) (hk : k ≤ 63) : mov (L.take k ++ [8]) = 8 := by
  have e : la (L.take k ++ [8]) = (L.take k).map (cl 1 8) ++ [8] := by
    unfold la
    rw [List.take_of_length_le (by simp; omega), List.map_append]
    rfl
  have b := mov_bd (L.take k ++ [8])
  have h : ∀ (l : List Int) (a : Int), 8 ≤ (l ++ [8]).foldl (fun a b => if a < b then b else a) a := fun l a => by
    rw [List.foldl_append]; simp only [List.foldl_cons, List.foldl_nil]; split <;> omega
  have := h ((L.take k).map (cl 1 8)) 1
  unfold mov at *
  rw [e] at *
  omega
theorem all_la (L : List Int) : (la L).all (wi 1 8) = true := by
  rw [List.all_eq_true]
  intro x hx
  unfold la at hx
  rw [List.mem_map] at hx
  obtain ⟨y, _, rfl⟩ := hx
  exact wi_cl 1 8 y (by decide)
theorem all_eight (L : List Int) (k : Nat) (h : L.all (wi 1 8) = true) : (L.take k ++ [8]).all (wi 1 8) = true := by
  rw [List.all_append]
  rw [List.all_eq_true] at h
  have : (L.take k).all (wi 1 8) = true := by
    rw [List.all_eq_true]; intro x hx; exact h x (List.mem_of_mem_take hx)
  rw [this]; rfl
theorem right_of (m wd ro qu st sl se wa : Int) (L : List Int) (n n2 : Nat) (h0 : L.all (wi 1 8) = true) (h1 : 0 ≤ m ∧ m ≤ 2) (h2 : 1 ≤ wd ∧ wd ≤ 2) (h3 : 2 ≤ ro ∧ ro ≤ 8) (h4 : 1 ≤ qu ∧ qu ≤ 4) (h5 : 1 ≤ st ∧ st ≤ 4) (h6 : 2 ≤ sl ∧ sl ≤ 6) (h7 : 1 ≤ se ∧ se ≤ 4) (h8 : se ≠ 3) (h9 : 1 ≤ wa ∧ wa ≤ 2) (h10 : n ≤ 64) (h11 : n2 ≤ 64) : rightB m wd ro qu st sl se wa L n n2 = true := by
  have w : ∀ lo hi x : Int, lo ≤ x ∧ x ≤ hi → wi lo hi x = true := fun lo hi x h => by unfold wi; simp; omega
  have d : (se != 3) = true := by rw [bne_iff_ne]; exact h8
  have e1 : decide ((n : Int) ≤ 64) = true := by simp; omega
  have e2 : decide ((n2 : Int) ≤ 64) = true := by simp; omega
  unfold rightB
  rw [h0, w _ _ _ h1, w _ _ _ h2, w _ _ _ h3, w _ _ _ h4, w _ _ _ h5, w _ _ _ h6, w _ _ _ h7, d, w _ _ _ h9, e1, e2]
  rfl
theorem cs_in {se : Int} (h : 1 ≤ se ∧ se ≤ 4) (h3 : se ≠ 3) : cs se = se := by unfold cs; rw [cl_in h.1 h.2, if_neg h3]
/-- the first of an owned row -/
theorem owns_take {w : World} {base : Nat} {t : TypeId} {g n cap k : Nat} {xs : List Value} (h : w.ownsRow base t 1 (.slice (some ⟨g, 0, none⟩) n cap) n xs) (hk : k ≤ n) : w.ownsRow base t 1 (.slice (some ⟨g, 0, none⟩) k cap) k (xs.take k) := by
  have hl : xs.length = n := by have := h.1; omega
  rcases h.2 with ⟨hv, _⟩ | ⟨g', cap', cur, hv, hb, hg, hn, hm, hs, ht⟩
  · cases hv
  · cases hv
    refine ⟨by simp; omega, .inr ⟨g, cap, cur, rfl, hb, hg, by omega, hm, hs, ?_⟩⟩
    rw [← ht, List.take_take]; congr 1; omega
/-- a fact on all the cells of a list that a slice reads -/
theorem news_of_sl {w : World} {k : IntKind} {g : Nat} {M : List Int} (h : Sl w k (some ⟨g, 0, none⟩) M) : ∀ j u, (M.map (Value.int k))[j]? = some u → w.cell? ((⟨g, 0, none⟩ : Addr).add j) = some u := fun j u hu => by
  have hadd : (⟨g, 0, none⟩ : Addr).add j = ⟨g, j, none⟩ := by unfold Addr.add; split <;> simp_all
  have hj : j < M.length := by have := (List.getElem?_eq_some_iff.1 hu).1; simpa using this
  rw [hadd, sl_at h j hj, ← hu]
  simp [List.getD_eq_getElem?_getD, hj]
theorem ints_one (k : IntKind) (M : List Int) : ∀ u ∈ M.map (Value.int k), u.oneCell' = true := fun u hu => by
  rw [List.mem_map] at hu
  obtain ⟨x, _, rfl⟩ := hu
  rfl
theorem Box.set4 {w : World} {g : Nat} {m wd ro qu st sl se wa : Int} {A : Option Addr} {n C : Nat} {tb : Bool} {A2 : Option Addr} {n2 C2 : Nat} (h : Box w g m wd ro qu st sl se wa A n C tb A2 n2 C2) (x : Int) :
    Box (w.setCell ⟨g, 4, none⟩ (.int .i64 x)) g m wd ro qu x sl se wa A n C tb A2 n2 C2 := by
  unfold Box at *
  rw [heap_setCell_same w g 4 _ _ _ h]; rfl
theorem Box.set5 {w : World} {g : Nat} {m wd ro qu st sl se wa : Int} {A : Option Addr} {n C : Nat} {tb : Bool} {A2 : Option Addr} {n2 C2 : Nat} (h : Box w g m wd ro qu st sl se wa A n C tb A2 n2 C2) (x : Int) :
    Box (w.setCell ⟨g, 5, none⟩ (.int .i64 x)) g m wd ro qu st x se wa A n C tb A2 n2 C2 := by
  unfold Box at *
  rw [heap_setCell_same w g 5 _ _ _ h]; rfl
theorem Box.set6 {w : World} {g : Nat} {m wd ro qu st sl se wa : Int} {A : Option Addr} {n C : Nat} {tb : Bool} {A2 : Option Addr} {n2 C2 : Nat} (h : Box w g m wd ro qu st sl se wa A n C tb A2 n2 C2) (x : Int) :
    Box (w.setCell ⟨g, 6, none⟩ (.int .i64 x)) g m wd ro qu st sl x wa A n C tb A2 n2 C2 := by
  unfold Box at *
  rw [heap_setCell_same w g 6 _ _ _ h]; rfl
theorem Box.set7 {w : World} {g : Nat} {m wd ro qu st sl se wa : Int} {A : Option Addr} {n C : Nat} {tb : Bool} {A2 : Option Addr} {n2 C2 : Nat} (h : Box w g m wd ro qu st sl se wa A n C tb A2 n2 C2) (x : Int) :
    Box (w.setCell ⟨g, 7, none⟩ (.int .i64 x)) g m wd ro qu st sl se x A n C tb A2 n2 C2 := by
  unfold Box at *
  rw [heap_setCell_same w g 7 _ _ _ h]; rfl
theorem rise_bo (st sl se wa st' sl' se' wa' : Int) (M M' : List Int) (h1 : 1 ≤ st ∧ st ≤ st' ∧ st' ≤ 4) (h2 : 2 ≤ sl ∧ sl ≤ sl') (h2' : sl' ≤ 6) (h3 : 1 ≤ se) (h3' : se ≤ se') (h3a : se' ≤ 4) (h3b : se ≠ 3) (h3c : se' ≠ 3) (h4 : 1 ≤ wa ∧ wa ≤ wa') (h4' : wa' ≤ 2) (h5 : mov M ≤ mov M') :
    bo (cl 1 4 st) (cl 2 6 sl) (cs se) (cl 1 2 wa) (mov (la M)) ≤ bo (cl 1 4 st') (cl 2 6 sl') (cs se') (cl 1 2 wa') (mov (la M')) := by
  have := mov_bd M
  rw [mov_la, mov_la, cl_in (by omega) (by omega), cl_in (by omega) (by omega), cs_in ⟨by omega, by omega⟩ h3b, cl_in (by omega) (by omega), cl_in (lo := 1) (hi := 4) (x := st') (by omega) (by omega), cl_in (lo := 2) (hi := 6) (x := sl') (by omega) (by omega), cs_in (se := se') ⟨by omega, by omega⟩ h3c, cl_in (lo := 1) (hi := 2) (x := wa') (by omega) (by omega)]
  exact bo_mono _ _ _ _ _ _ _ _ _ _ (by omega) (by omega) (by omega) (by omega) (by omega) (by omega) (by omega) (by omega) (by omega) (by omega)
theorem rise_dr (st sl se wa st' sl' se' wa' : Int) (M M' : List Int) (h1 : 1 ≤ st ∧ st ≤ st' ∧ st' ≤ 4) (h2 : 2 ≤ sl ∧ sl ≤ sl') (h2' : sl' ≤ 6) (h3 : 1 ≤ se) (h3' : se ≤ se') (h3a : se' ≤ 4) (h3b : se ≠ 3) (h3c : se' ≠ 3) (h4 : 1 ≤ wa ∧ wa ≤ wa') (h4' : wa' ≤ 2) (h5 : mov M ≤ mov M') :
    dr (cl 1 4 st) (cl 2 6 sl) (cs se) (cl 1 2 wa) (mov (la M)) ≤ dr (cl 1 4 st') (cl 2 6 sl') (cs se') (cl 1 2 wa') (mov (la M')) := by
  have := mov_bd M
  rw [mov_la, mov_la, cl_in (by omega) (by omega), cl_in (by omega) (by omega), cs_in ⟨by omega, by omega⟩ h3b, cl_in (by omega) (by omega), cl_in (lo := 1) (hi := 4) (x := st') (by omega) (by omega), cl_in (lo := 2) (hi := 6) (x := sl') (by omega) (by omega), cs_in (se := se') ⟨by omega, by omega⟩ h3c, cl_in (lo := 1) (hi := 2) (x := wa') (by omega) (by omega)]
  exact dr_mono _ _ _ _ _ _ _ _ _ _ (by omega) (by omega) (by omega) (by omega) (by omega) (by omega) (by omega) (by omega) (by omega) (by omega)
theorem Sl.far0 {w : World} {k : IntKind} {A : Option Addr} {L : List Int} (h : Sl w k A L) (a : Addr) (v : Value) (hr : ∀ b off, A = some ⟨b, off, none⟩ → 0 < L.length → b ≠ a.block) : Sl (w.setCell a v) k A L := fun hn =>
  (Sl.far h a v (fun b off e => hr b off e hn)) hn
theorem Sl.below0 {w w' : World} {k : IntKind} {g B : Nat} {L : List Int} (h : Sl w k (some ⟨g, 0, none⟩) L) (hb : Below B w w') (hg : 0 < L.length → g < B) : Sl w' k (some ⟨g, 0, none⟩) L := fun hn => by
  obtain ⟨b, off, e, hlt, hc⟩ := h hn
  have hgB := hg hn
  have e' : b = g := by simp at e; omega
  subst e'
  exact ⟨b, off, e, Nat.lt_of_lt_of_le hlt hb.size, fun j hj => (hb.cell (p := ⟨b, off + j, none⟩) hgB).trans (hc j hj)⟩
end Go.Proofs.Ytfphdchpfhedfaa
