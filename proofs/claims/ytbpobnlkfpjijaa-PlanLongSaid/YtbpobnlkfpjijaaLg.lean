import Derived.Test.YtbpobnlkfpjijaaLp
import Derived.Test.YtbpobnlkfpjijaaPr35
/-! PlanLong is true. -/
namespace Go.Proofs.Ytbpobnlkfpjijaa.Pr
open Go.RowKit Go.Proofs.YtbpobnlkfpjijaaW.PrintWords Go.Proofs.YtbpobnlkfpjijaaW.PrintLast Go.Proofs.YtbpobnlkfpjijaaW.PrintMore
set_option linter.unusedVariables false
set_option linter.unusedSimpArgs false
theorem long_l0 (N : Int) (h2 : 2 ≤ N) (hN : N ≤ 1000) (a0 a1 a2 : Int) : ∀ (d j k : Nat), j + d = splitLen N → d < k → tallysticklaw19_PlanLong.l0 k true (splitUpto N (splitLen N)) (min (8 * (j : Int)) N) (j : Int) a0 a1 a2 = some true
  | d, j, 0, _, hk => by omega
  | 0, j, k + 1, hj, _ => by
    have hM : (j : Int) = (splitLen N : Int) := by omega
    have hS : min (8 * (j : Int)) N = N := by unfold splitLen at hM; omega
    unfold tallysticklaw19_PlanLong.l0
    rw [splitUpto_length, if_neg (by omega), if_pos rfl, if_neg (by unfold splitLen; omega), hS, if_pos (by omega)]
  | d + 1, j, k + 1, hj, hk => by
    have hlt : j < splitLen N := by omega
    have hlt8 : 8 * (j : Int) < N := by unfold splitLen at hlt; omega
    have hS : min (8 * (j : Int)) N = 8 * (j : Int) := by omega
    have ih := long_l0 N h2 hN a0 a1 a2 d (j + 1) k (by omega) (by omega)
    have hw : wrap64 ((j : Int) + 1) = ((j + 1 : Nat) : Int) := by rw [wrapIn _ (by omega)]; omega
    unfold tallysticklaw19_PlanLong.l0
    rw [splitUpto_length, if_pos (by omega), if_pos (by omega), rd_split N j _ hlt, hw, hS]
    by_cases hl : N - 8 * (j : Int) > 8
    · have he : splitElt N j = ⟨8 * (j : Int), 8 * (j : Int) + 8⟩ := by unfold splitElt; rw [if_pos hl]
      have hd : wrap64 (8 * (j : Int) + 8 - 8 * (j : Int)) = 8 := by rw [wrapIn _ (by omega)]; omega
      have hs : wrap64 (8 * (j : Int) + 8) = min (8 * ((j + 1 : Nat) : Int)) N := by rw [wrapIn _ (by omega)]; omega
      rw [he]
      simp only
      rw [hd, if_neg (by omega), if_neg (by omega), hs, if_pos rfl, if_pos trivial]
      split <;> exact ih
    · have he : splitElt N j = ⟨8 * (j : Int), N⟩ := by unfold splitElt; rw [if_neg hl]
      have hd : wrap64 (N - 8 * (j : Int)) = N - 8 * (j : Int) := wrapIn _ (by omega)
      have hs : wrap64 (8 * (j : Int) + (N - 8 * (j : Int))) = min (8 * ((j + 1 : Nat) : Int)) N := by rw [wrapIn _ (by omega)]; omega
      have hlast : ¬ (((j + 1 : Nat) : Int) < (splitLen N : Int)) := by unfold splitLen; omega
      rw [he]
      simp only
      rw [hd, if_neg (by omega), if_neg (by omega), hs, if_neg hlast, if_pos trivial]
      exact ih
theorem small_nil (a0 a1 a2 : Int) : tallystickref19_Small.f 300 a0 a1 a2 [] = some (decide (-1000 ≤ a1 ∧ a1 ≤ 60 ∧ -1000 ≤ a2 ∧ a2 ≤ 60)) := by
  unfold tallystickref19_Small.f
  by_cases h1 : a1 < -1000
  · rw [if_pos h1, decide_eq_false (by omega)]; simp [tallystickref19_Small.j0]
  · by_cases h2 : a1 > 60
    · rw [if_neg h1, if_pos h2, decide_eq_false (by omega)]; simp [tallystickref19_Small.j0]
    · by_cases h3 : a2 < -1000
      · rw [if_neg h1, if_neg h2, if_pos h3, decide_eq_false (by omega)]; simp [tallystickref19_Small.j0]
      · by_cases h4 : a2 > 60
        · rw [if_neg h1, if_neg h2, if_neg h3, if_pos h4, decide_eq_false (by omega)]; simp [tallystickref19_Small.j0]
        · rw [if_neg h1, if_neg h2, if_neg h3, if_neg h4, decide_eq_true (p := -1000 ≤ a1 ∧ _) (by omega)]; simp [tallystickref19_Small.j0, tallystickref19_Small.l0]
theorem long_true (a0 a1 a2 : Int) : tallysticklaw19_PlanLong.f 300 a0 a1 a2 = some true := by
  unfold tallysticklaw19_PlanLong.f
  rw [planShown, Option.bind_some, small_nil, Option.bind_some]
  by_cases h : -1000 ≤ a1 ∧ a1 ≤ 60 ∧ -1000 ≤ a2 ∧ a2 ≤ 60
  · rw [decide_eq_true h, if_pos rfl]
    rcases pieces_small a0 a1 a2 ⟨h.1, h.2.1⟩ ⟨h.2.2.1, h.2.2.2⟩ with he | ⟨n, h1, h2, he⟩
    · rw [he, Option.bind_some]
      simp [tallysticklaw19_PlanLong.l0]
    · rw [he, Option.bind_some]
      have := long_l0 n h1 h2 a0 a1 a2 (splitLen n) 0 300 (by omega) (by unfold splitLen; omega)
      rwa [show min (8 * ((0 : Nat) : Int)) n = 0 by omega] at this
  · rw [decide_eq_false h, if_neg (by decide)]
end Go.Proofs.Ytbpobnlkfpjijaa.Pr
