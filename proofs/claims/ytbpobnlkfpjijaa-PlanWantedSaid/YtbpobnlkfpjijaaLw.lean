import Derived.Test.YtbpobnlkfpjijaaLp
import Derived.Test.YtbpobnlkfpjijaaPr39
/-! PlanWanted is true. -/
namespace Go.Proofs.Ytbpobnlkfpjijaa.Pr
open Go.RowKit Go.Proofs.YtbpobnlkfpjijaaW.PrintWords Go.Proofs.YtbpobnlkfpjijaaW.PrintLast Go.Proofs.YtbpobnlkfpjijaaW.PrintMore
set_option linter.unusedVariables false
set_option linter.unusedSimpArgs false
theorem wanted_l0 (N : Int) (h2 : 2 ≤ N) (hN : N ≤ 1000) : ∀ (d j k : Nat), j + d = splitLen N → 1 ≤ j → d < k → tallysticklaw19_PlanWanted.l0 k true (splitUpto N (splitLen N)) (j : Int) = some true
  | d, j, 0, _, _, hk => by omega
  | 0, j, k + 1, hj, _, _ => by
    unfold tallysticklaw19_PlanWanted.l0
    rw [splitUpto_length, if_neg (by omega)]
  | d + 1, j, k + 1, hj, h1, hk => by
    have hlt : j < splitLen N := by omega
    have hlt8 : 8 * (j : Int) < N := by unfold splitLen at hlt; omega
    have ih := wanted_l0 N h2 hN d (j + 1) k (by omega) (by omega) (by omega)
    have hw : wrap64 ((j : Int) + 1) = ((j + 1 : Nat) : Int) := by rw [wrapIn _ (by omega)]; omega
    have hv : wrap64 ((j : Int) - 1) = ((j - 1 : Nat) : Int) := by rw [wrapIn _ (by omega)]; omega
    have hp : (splitElt N (j - 1)).f1 = 8 * (j : Int) := by unfold splitElt; rw [if_pos (by omega)]; simp only; omega
    have hq : (splitElt N j).f0 = 8 * (j : Int) := rfl
    have hr : ¬ (splitElt N j).f1 ≤ 8 * (j : Int) := by unfold splitElt; simp only; split <;> omega
    unfold tallysticklaw19_PlanWanted.l0
    rw [splitUpto_length, if_pos (by omega), if_pos (by omega), hv, if_pos (by omega), if_pos (by omega), rd_split N j _ hlt, rd_split N (j - 1) _ (by omega), hw, hp, hq, if_pos rfl, if_neg hr]
    exact ih
theorem guard_small (r : Int) (h : r ≤ 2) : ∃ g, digits_Guard.f r = some g ∧ 0 ≤ g ∧ g ≤ 60 := by
  unfold digits_Guard.f
  by_cases h0 : r ≤ 0
  · have : (mn (mx r 0) 4).toNat = 0 := by unfold mn mx; (repeat' split) <;> omega
    rw [this]
    exact ⟨_, rfl, by decide +kernel, by decide +kernel⟩
  · by_cases h1 : r = 1
    · subst h1
      exact ⟨_, rfl, by decide +kernel, by decide +kernel⟩
    · obtain rfl : r = 2 := by omega
      exact ⟨_, rfl, by decide +kernel, by decide +kernel⟩
theorem wj0 (k : Nat) (c d r : Int) (x7 : Bool) (x8 : Int) (x9 : Bool) : tallysticklaw19_PlanWanted.j0 (k + 1) c d r x7 x8 x9 = (if ((x8 == 0) != x9) = true then (some false) else (if x8 = 0 then (if d > 60 then (tallysticklaw19_PlanWanted.j1 k c d r x7 true) else (tallysticklaw19_PlanWanted.j1 k c d r x7 (decide (r > 2)))) else (tallysticklaw19_PlanWanted.j1 k c d r x7 true))) := by rw [tallysticklaw19_PlanWanted.j0]
theorem wj1 (k : Nat) (c d r : Int) (x7 : Bool) (b : Bool) : tallysticklaw19_PlanWanted.j1 (k + 1) c d r x7 b = (if b = true then (some x7) else ((plan_Job.f c d r).bind fun bt248 => ((plan_Pieces.f k bt248.1 bt248.2.1 bt248.2.2).bind fun t251 => (if (t251.length : Int) = 0 then (tallysticklaw19_PlanWanted.j2 k x7 t251 true) else (if 0 < (t251.length : Int) then (tallysticklaw19_PlanWanted.j2 k x7 t251 (((rd_T29 t251 0).f0) != 0)) else (none)))))) := by rw [tallysticklaw19_PlanWanted.j1]
theorem wj2 (k : Nat) (x7 : Bool) (l : List S29) (b : Bool) : tallysticklaw19_PlanWanted.j2 (k + 1) x7 l b = (if b = true then (some false) else (tallysticklaw19_PlanWanted.l0 k x7 l 1)) := by rw [tallysticklaw19_PlanWanted.j2]
theorem wanted_j0 (c d r : Int) (b : Bool) (hb : b = true → (c = 1 ∨ c = 2) ∧ 1 ≤ d) : tallysticklaw19_PlanWanted.j0 302 c d r true (if b = true then 0 else 13) b = some true := by
  cases b with
  | false => simp [tallysticklaw19_PlanWanted.j0, tallysticklaw19_PlanWanted.j1]
  | true =>
    obtain ⟨hc, hd⟩ := hb rfl
    by_cases hd2 : d > 60
    · simp [tallysticklaw19_PlanWanted.j0, tallysticklaw19_PlanWanted.j1, hd2]
    · by_cases hr : r > 2
      · simp [tallysticklaw19_PlanWanted.j0, tallysticklaw19_PlanWanted.j1, hd2, hr]
      · obtain ⟨g, hg, g0, g1⟩ := guard_small r (by omega)
        obtain ⟨n, h1, h2, hp⟩ := pieces_wanted c d g hc ⟨hd, by omega⟩ ⟨g0, g1⟩
        have hj : plan_Job.f c d r = some (c, d, g) := by unfold plan_Job.f; rw [hg, Option.bind_some]
        have hM : 1 ≤ splitLen n := by unfold splitLen; omega
        have h0 : (rd_T29 (splitUpto n (splitLen n)) 0).f0 = 0 := by
          have := rd_split n 0 (splitLen n) hM
          rw [show ((0 : Nat) : Int) = 0 from rfl] at this
          rw [this]
          rfl
        have hl := wanted_l0 n h1 h2 (splitLen n - 1) 1 299 (by omega) (by omega) (by unfold splitLen; omega)
        refine (wj0 301 c d r true _ true).trans ?_
        rw [if_neg (by decide), if_pos (by rfl), if_neg hd2]
        refine (wj1 300 c d r true _).trans ?_
        rw [if_neg (by simp; omega), hj, Option.bind_some]
        simp only
        rw [hp, Option.bind_some, splitUpto_length, if_neg (by omega), if_pos (by omega), h0]
        refine (wj2 299 true _ _).trans ?_
        rw [if_neg (by decide)]
        exact hl
theorem planWanted_e (c d : Int) : plan_Wanted.f 302 c d = some (if decide ((c = 1 ∨ c = 2) ∧ 1 ≤ d ∧ d ≤ 1000) = true then 0 else 13) := by
  unfold plan_Wanted.f
  by_cases h1 : d < 1
  · rw [if_pos h1, decide_eq_false (by omega)]; simp [plan_Wanted.j0]
  · by_cases h2 : d > 1000
    · rw [if_neg h1, decide_eq_false (p := _ ∧ _) (by omega)]; simp [plan_Wanted.j0]; omega
    · rw [if_neg h1]
      by_cases h3 : c = 1
      · subst h3
        simp [plan_Wanted.j0, show ¬ 1000 < d by omega, show 1 ≤ d by omega, show d ≤ 1000 by omega]
      · by_cases h4 : c = 2
        · subst h4
          simp [plan_Wanted.j0, show ¬ 1000 < d by omega, show 1 ≤ d by omega, show d ≤ 1000 by omega]
        · simp [plan_Wanted.j0, show ¬ 1000 < d by omega, h3, h4]
set_option maxRecDepth 100000 in
theorem shown302 : tallysticklaw19_shown.f 302 = some true := by decide +kernel
theorem wanted_true (c d r : Int) : tallysticklaw19_PlanWanted.f 302 c d r = some true := by
  unfold tallysticklaw19_PlanWanted.f
  rw [shown302, Option.bind_some, planWanted_e, Option.bind_some]
  have H : ∀ b : Bool, b = decide ((c = 1 ∨ c = 2) ∧ 1 ≤ d ∧ d ≤ 1000) → tallysticklaw19_PlanWanted.j0 302 c d r true (if decide ((c = 1 ∨ c = 2) ∧ 1 ≤ d ∧ d ≤ 1000) = true then 0 else 13) b = some true := fun b hb => by
    rw [← hb]
    exact wanted_j0 c d r b (fun h => by rw [h] at hb; have := of_decide_eq_true hb.symm; exact ⟨this.1, this.2.1⟩)
  by_cases h1 : c = 1
  · rw [if_pos h1]
    by_cases hd : d ≥ 1
    · rw [if_pos hd]
      refine H _ ?_
      by_cases h2 : d ≤ 1000 <;> simp [h1, h2, show 1 ≤ d from hd]
    · rw [if_neg hd]
      exact H _ (decide_eq_false (by omega)).symm
  · rw [if_neg h1]
    by_cases h2 : c = 2
    · rw [if_pos h2]
      by_cases hd : d ≥ 1
      · rw [if_pos hd]
        refine H _ ?_
        by_cases h3 : d ≤ 1000 <;> simp [h2, h3, show 1 ≤ d from hd]
      · rw [if_neg hd]
        exact H _ (decide_eq_false (by omega)).symm
    · rw [if_neg h2]
      exact H _ (decide_eq_false (by omega)).symm
end Go.Proofs.Ytbpobnlkfpjijaa.Pr
