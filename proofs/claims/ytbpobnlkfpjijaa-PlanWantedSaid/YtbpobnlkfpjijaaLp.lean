import Derived.Test.YtbpobnlkfpjijaaPr32
/-! How many terms: up to 120 figures; the document's example. -/
namespace Go.Proofs.Ytbpobnlkfpjijaa.Pr
open Go.RowKit Go.Proofs.YtbpobnlkfpjijaaW.PrintWords Go.Proofs.YtbpobnlkfpjijaaW.PrintLast Go.Proofs.YtbpobnlkfpjijaaW.PrintMore
set_option linter.unusedVariables false
set_option linter.unusedSimpArgs false
theorem wrapIn (n : Int) (h : -9223372036854775808 ≤ n ∧ n ≤ 9223372036854775807) : wrap64 n = n := by unfold wrap64; omega
/-- Is it an answer without an error, between 2 and 1000? -/
def termsGood (x : Option (Int × Int)) : Bool := match x with
  | some (n, e) => decide (e = 0) && decide (2 ≤ n) && decide (n ≤ 1000)
  | none => false
set_option maxRecDepth 100000 in
theorem terms_a : (List.range 40).all (fun m => termsGood (series_Terms.f 300 1 ((m : Nat) : Int))) = true := by decide +kernel
set_option maxRecDepth 100000 in
theorem terms_b : (List.range 40).all (fun m => termsGood (series_Terms.f 300 1 ((m + 40 : Nat) : Int))) = true := by decide +kernel
set_option maxRecDepth 100000 in
theorem terms_c : (List.range 41).all (fun m => termsGood (series_Terms.f 300 1 ((m + 80 : Nat) : Int))) = true := by decide +kernel
theorem termsGood_spec {x : Option (Int × Int)} (h : termsGood x = true) : ∃ n, x = some (n, 0) ∧ 2 ≤ n ∧ n ≤ 1000 := by
  unfold termsGood at h
  split at h
  · rename_i n e
    simp only [Bool.and_eq_true, decide_eq_true_eq] at h
    obtain ⟨⟨rfl, h1⟩, h2⟩ := h
    exact ⟨n, rfl, h1, h2⟩
  · cases h
theorem terms_e (m : Int) (h0 : 0 ≤ m) (h1 : m ≤ 120) : ∃ n, series_Terms.f 300 1 m = some (n, 0) ∧ 2 ≤ n ∧ n ≤ 1000 := by
  refine termsGood_spec ?_
  obtain ⟨k, rfl⟩ := Int.eq_ofNat_of_zero_le h0
  by_cases ha : k < 40
  · exact List.all_eq_true.1 terms_a k (List.mem_range.2 ha)
  · by_cases hb : k < 80
    · have := List.all_eq_true.1 terms_b (k - 40) (List.mem_range.2 (by omega))
      rwa [show k - 40 + 40 = k by omega] at this
    · have := List.all_eq_true.1 terms_c (k - 80) (List.mem_range.2 (by omega))
      rwa [show k - 80 + 80 = k by omega] at this
theorem terms_pi (m : Int) (h0 : 0 ≤ m) (h1 : m ≤ 120) : ∃ n, series_Terms.f 300 2 m = some (n, 0) ∧ 2 ≤ n ∧ n ≤ 1000 := by
  have hq : Int.tdiv m 14 = m / 14 := Int.tdiv_eq_ediv_of_nonneg h0
  refine ⟨m / 14 + 2, ?_, by omega, by omega⟩
  simp [series_Terms.f, series_Terms.j0, series_Terms.j1, show ¬ m < 0 by omega, show ¬ 3000 < m by omega, hq]
  rw [wrapIn (m / 14) (by omega), wrapIn _ (by omega)]
theorem terms_low (c m : Int) (h : m < 0) (hc : c = 1 ∨ c = 2) : series_Terms.f 300 c m = some (0, 1) := by
  rcases hc with rfl | rfl <;> simp [series_Terms.f, series_Terms.j0, series_Terms.j1, h]
theorem terms_none (c m : Int) (h1 : c ≠ 1) (h2 : c ≠ 2) : series_Terms.f 300 c m = some (0, 13) := by
  simp [series_Terms.f, series_Terms.j0, h1, h2]
set_option maxRecDepth 100000 in
theorem planShown : tallysticklaw19_shown.f 300 = some true := by decide +kernel
/-- A job's pieces, small as it is. -/
theorem pieces_small (c d g : Int) (hd : -1000 ≤ d ∧ d ≤ 60) (hg : -1000 ≤ g ∧ g ≤ 60) :
    plan_Pieces.f 300 c d g = some [] ∨ ∃ n, 2 ≤ n ∧ n ≤ 1000 ∧ plan_Pieces.f 300 c d g = some (splitUpto n (splitLen n)) := by
  unfold plan_Pieces.f
  rw [wrapIn _ (by omega)]
  have hs : ∀ n : Int, 2 ≤ n → n ≤ 1000 → series_Split.f 0 n 8 = some (splitUpto n (splitLen n)) := fun n h1 h2 => by
    unfold series_Split.f
    rw [if_pos ⟨rfl, rfl, by omega, h2⟩]
  by_cases hc : c = 1 ∨ c = 2
  · by_cases hm : d + g < 0
    · rw [terms_low c _ hm hc]
      exact .inl rfl
    · have : ∃ n, series_Terms.f 300 c (d + g) = some (n, 0) ∧ 2 ≤ n ∧ n ≤ 1000 := by
        rcases hc with rfl | rfl
        · exact terms_e _ (by omega) (by omega)
        · exact terms_pi _ (by omega) (by omega)
      obtain ⟨n, hn, h1, h2⟩ := this
      rw [hn, Option.bind_some]
      refine .inr ⟨n, h1, h2, ?_⟩
      rw [if_pos rfl, hs n h1 h2, Option.bind_some]
  · rw [terms_none c _ (fun h => hc (.inl h)) (fun h => hc (.inr h))]
    exact .inl rfl
/-- .. and where it is wanted there are some. -/
theorem pieces_wanted (c d g : Int) (hc : c = 1 ∨ c = 2) (hd : 1 ≤ d ∧ d ≤ 60) (hg : 0 ≤ g ∧ g ≤ 60) : ∃ n, 2 ≤ n ∧ n ≤ 1000 ∧ plan_Pieces.f 300 c d g = some (splitUpto n (splitLen n)) := by
  unfold plan_Pieces.f
  rw [wrapIn _ (by omega)]
  have : ∃ n, series_Terms.f 300 c (d + g) = some (n, 0) ∧ 2 ≤ n ∧ n ≤ 1000 := by
    rcases hc with rfl | rfl
    · exact terms_e _ (by omega) (by omega)
    · exact terms_pi _ (by omega) (by omega)
  obtain ⟨n, hn, h1, h2⟩ := this
  rw [hn, Option.bind_some]
  refine ⟨n, h1, h2, ?_⟩
  rw [if_pos rfl]
  unfold series_Split.f
  rw [if_pos ⟨rfl, rfl, by omega, h2⟩, Option.bind_some]
theorem rd_split (N : Int) (j M : Nat) (h : j < M) : rd_T29 (splitUpto N M) (j : Int) = splitElt N j := by
  simp [rd_T29, splitUpto, List.getD_eq_getElem?_getD, h]
end Go.Proofs.Ytbpobnlkfpjijaa.Pr
