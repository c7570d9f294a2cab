-- Laid by a program (wip/merge.py): texts of this claim, one behind the other.
import Derived.Test.YtbpobnlkfpjijaaX6
-- Lx
section
namespace Go.Proofs.Ytbpobnlkfpjijaa.Pr
open Go.RowKit Go.Proofs.YtbpobnlkfpjijaaW.PrintWords Go.Proofs.YtbpobnlkfpjijaaW.PrintLast Go.Proofs.YtbpobnlkfpjijaaW.PrintMore
set_option linter.unusedVariables false
set_option linter.unusedSimpArgs false
/-- Is it a sum of the range, without an error? -/
def sumGood (c a b : Int) : Bool := match tallystickref17_Sum.f 270 c a b with
  | some (r1, r2, _, _, _, _, e) => decide (r1 = a) && decide (r2 = b) && decide (e = 0)
  | none => false
set_option maxRecDepth 100000 in
theorem sums_e : (List.range 12).all (fun k => (List.range 8).all (fun t => sumGood 1 (8 * ((k : Nat) : Int)) (8 * ((k : Nat) : Int) + ((t + 1 : Nat) : Int)))) = true := by decide +kernel
set_option maxRecDepth 100000 in
theorem sums_pi : (List.range 2).all (fun k => (List.range 8).all (fun t => sumGood 2 (8 * ((k : Nat) : Int)) (8 * ((k : Nat) : Int) + ((t + 1 : Nat) : Int)))) = true := by decide +kernel
theorem sumGood_spec {c a b : Int} (h : sumGood c a b = true) : ∃ P Q T m, tallystickref17_Sum.f 270 c a b = some (a, b, P, Q, T, m, 0) := by
  unfold sumGood at h
  split at h
  · rename_i r1 r2 P Q T m e he
    simp only [Bool.and_eq_true, decide_eq_true_eq] at h
    obtain ⟨⟨rfl, rfl⟩, rfl⟩ := h
    exact ⟨P, Q, T, m, he⟩
  · cases h
theorem splitElt_f1 (n : Int) (j : Nat) (h : j < splitLen n) : ∃ t : Nat, t < 8 ∧ (splitElt n j).f1 = 8 * (j : Int) + ((t + 1 : Nat) : Int) := by
  unfold splitLen at h
  unfold splitElt
  by_cases hl : n - 8 * (j : Int) > 8
  · exact ⟨7, by omega, by rw [if_pos hl]; simp only; omega⟩
  · exact ⟨(n - 8 * (j : Int) - 1).toNat, by omega, by rw [if_neg hl]; simp only; omega⟩
theorem sum_ok (c n : Int) (hc : c = 1 ∧ n ≤ 90 ∨ c = 2 ∧ n ≤ 10) (j : Nat) (h : j < splitLen n) : ∃ P Q T m, tallystickref17_Sum.f 270 c (splitElt n j).f0 (splitElt n j).f1 = some ((splitElt n j).f0, (splitElt n j).f1, P, Q, T, m, 0) := by
  refine sumGood_spec ?_
  obtain ⟨t, ht, he⟩ := splitElt_f1 n j h
  rw [he]
  show sumGood c (8 * (j : Int)) _ = true
  unfold splitLen at h
  rcases hc with ⟨rfl, hn⟩ | ⟨rfl, hn⟩
  · exact List.all_eq_true.1 (List.all_eq_true.1 sums_e j (List.mem_range.2 (by omega))) t (List.mem_range.2 ht)
  · exact List.all_eq_true.1 (List.all_eq_true.1 sums_pi j (List.mem_range.2 (by omega))) t (List.mem_range.2 ht)
theorem sum_up (c a b : Int) (r) (h : tallystickref17_Sum.f 270 c a b = some r) : ∀ d : Nat, tallystickref17_Sum.f (270 + d) c a b = some r
  | 0 => h
  | d + 1 => tallystickref17_Sum.mono c a b (270 + d) _ (sum_up c a b r h d)
/-- Two pieces are one just if their places are. -/
theorem piece_eq (n : Int) (i j : Nat) : ((splitElt n i).f0 == (splitElt n j).f0 && ((splitElt n i).f1 == (splitElt n j).f1)) = true ↔ i = j := by
  constructor
  · intro h
    simp only [Bool.and_eq_true, beq_iff_eq] at h
    have := h.1
    simp only [splitElt] at this
    omega
  · rintro rfl
    simp
theorem miss_l1 (n : Int) (M : Nat) (hM : M ≤ 100) (j0 j : Nat) (hj : j < M) (hlt : j0 < j) : ∀ (d i k : Nat), i + d = M → d < k →
    tallysticklaw19_PlanMissing.l1 k true (splitUpto n M) (j0 : Int) (if j < i then (j : Int) else -1) (i : Int) (splitElt n j).f0 (splitElt n j).f1 = some true
  | d, i, 0, _, hk => by omega
  | 0, i, k + 1, hi, _ => by
    unfold tallysticklaw19_PlanMissing.l1
    rw [splitUpto_length, if_neg (by omega), if_pos rfl, if_pos (by omega)]
    simp only [Option.some.injEq, decide_eq_true_eq]
    omega
  | d + 1, i, k + 1, hi, hk => by
    have ih := miss_l1 n M hM j0 j hj hlt d (i + 1) k (by omega) (by omega)
    have hw : wrap64 ((i : Int) + 1) = ((i + 1 : Nat) : Int) := by rw [wrapIn _ (by omega)]; omega
    unfold tallysticklaw19_PlanMissing.l1
    rw [splitUpto_length, if_pos (by omega), if_pos (by omega), rd_split n i M (by omega), hw]
    by_cases he : i = j
    · subst he
      rw [if_pos ((piece_eq n i i).2 rfl)]
      rwa [if_pos (by omega)] at ih
    · rw [if_neg (fun h => he ((piece_eq n i j).1 h))]
      by_cases h2 : j < i
      · rw [if_pos h2]
        rwa [if_pos (by omega)] at ih
      · rw [if_neg h2]
        rwa [if_neg (by omega)] at ih
theorem miss_l0 (n : Int) (M : Nat) (hM : M ≤ 20) (l : List S41) (a0 a1 a2 : Int) (j : Nat) (hj : j < M) (hT : ∀ k, 270 ≤ k → ((tallystickref17_Sum.f k a0 (splitElt n j).f0 (splitElt n j).f1).bind fun bt516 => (if (j : Int) < 0 then (tallysticklaw19_PlanMissing.j1 k l true (splitUpto n M) (j : Int) true a0 a1 a2 bt516.1 bt516.2.1 bt516.2.2.1 bt516.2.2.2.1 bt516.2.2.2.2.1 bt516.2.2.2.2.2.1) else (tallysticklaw19_PlanMissing.j1 k l true (splitUpto n M) (j : Int) (bt516.2.2.2.2.2.2 != 0) a0 a1 a2 bt516.1 bt516.2.1 bt516.2.2.1 bt516.2.2.2.1 bt516.2.2.2.2.1 bt516.2.2.2.2.2.1))) = some true) : ∀ (d i k : Nat), i + d = M → d + 271 ≤ k →
    tallysticklaw19_PlanMissing.l0 k l true (splitUpto n M) (if j < i then (j : Int) else -1) (i : Int) a0 a1 a2 (splitElt n j).f0 (splitElt n j).f1 = some true
  | d, i, 0, _, hk => by omega
  | 0, i, k + 1, hi, hk => by
    unfold tallysticklaw19_PlanMissing.l0
    rw [splitUpto_length, if_neg (by omega), if_pos (by omega)]
    exact hT k (by omega)
  | d + 1, i, k + 1, hi, hk => by
    have ih := miss_l0 n M hM l a0 a1 a2 j hj hT d (i + 1) k (by omega) (by omega)
    have hw : wrap64 ((i : Int) + 1) = ((i + 1 : Nat) : Int) := by rw [wrapIn _ (by omega)]; omega
    unfold tallysticklaw19_PlanMissing.l0
    rw [splitUpto_length, if_pos (by omega), if_pos (by omega), rd_split n i M (by omega), hw]
    by_cases he : i = j
    · subst he
      rw [if_pos ((piece_eq n i i).2 rfl)]
      rwa [if_pos (by omega)] at ih
    · rw [if_neg (fun h => he ((piece_eq n i j).1 h))]
      by_cases h2 : j < i
      · rw [if_pos h2]
        rwa [if_pos (by omega)] at ih
      · rw [if_neg h2]
        rwa [if_neg (by omega)] at ih
theorem split_get (n : Int) (M j : Nat) (h : j < (splitUpto n M).length) : (splitUpto n M)[j] = splitElt n j := by simp [splitUpto]
theorem missing_true (a0 a1 a2 : Int) (l : List S41) : tallysticklaw19_PlanMissing.f 300 a0 a1 a2 l = some true := by
  unfold tallysticklaw19_PlanMissing.f
  obtain ⟨b, hs, hb⟩ := small_total a0 a1 a2 l
  rw [planShown, Option.bind_some, hs, Option.bind_some]
  cases b with
  | false => rfl
  | true =>
    obtain ⟨h1, h2, h3, h4, hl⟩ := hb rfl
    rw [if_pos rfl]
    rcases pieces_few a0 a1 a2 ⟨h1, h2⟩ ⟨h3, h4⟩ with hp | ⟨n, hn, hc, hp⟩
    · have : plan_Missing.f a0 a1 a2 l = some (0, 0, false) := by unfold plan_Missing.f; rw [hp]; rfl
      rw [this, Option.bind_some, if_neg (by decide)]
    · obtain ⟨M, hM⟩ : ∃ M, splitLen n = M := ⟨_, rfl⟩
      have hM2 : M ≤ 20 := by rw [← hM]; unfold splitLen; rcases hc with hc | hc <;> omega
      have hmiss : ∀ l', plan_Missing.f a0 a1 a2 l' = some (firstMiss l' (splitUpto n M)) := fun l' => by unfold plan_Missing.f; rw [hp, hM]; rfl
      rw [hmiss, Option.bind_some]
      rcases firstMiss_spec l (splitUpto n M) with h | ⟨j, hj, h, ha, hb⟩
      · rw [h, if_neg (by decide)]
      · have hj2 : j < M := by rwa [splitUpto_length] at hj
        rw [split_get] at h hb
        have hf := find_none l hl (splitElt n j).f0 (splitElt n j).f1 hb l.length 0 300 (by omega) (by omega)
        have hf2 : tallystickref19_Find.f 300 l (splitElt n j).f0 (splitElt n j).f1 = some (-1) := hf
        rw [h]
        simp only
        rw [if_pos trivial, hf2, Option.bind_some, if_neg (by decide), hp, Option.bind_some, hM]
        obtain ⟨P, Q, T, m, hsum⟩ := sum_ok a0 n hc j (by omega)
        have := miss_l0 n M hM2 l a0 a1 a2 j hj2 (fun k hk => ?_) M 0 300 (by omega) (by omega)
        · rwa [if_neg (by omega)] at this
        · obtain ⟨d, rfl⟩ : ∃ d, k = 270 + d := ⟨k - 270, by omega⟩
          rw [sum_up _ _ _ _ hsum d, Option.bind_some, if_neg (by omega)]
          simp only
          obtain ⟨k', hk'⟩ : ∃ k', 270 + d = k' + 1 := ⟨269 + d, by omega⟩
          rw [hk']
          rw [tallysticklaw19_PlanMissing.j1, if_neg (by decide), Option.bind_some]
          simp only [List.length_nil, Nat.zero_add, List.nil_append]
          rw [if_pos (by omega), Option.bind_some, Option.bind_some]
          simp only [List.length_singleton]
          rw [if_pos (by omega), hmiss, Option.bind_some]
          rcases firstMiss_spec (l ++ [(⟨⟨(splitElt n j).f0, (splitElt n j).f1⟩, P, Q, T, m⟩ : S41)]) (splitUpto n M) with h' | ⟨j', hj', h', ha', hb'⟩
          · rw [h', if_neg (by decide)]
          · have hj'2 : j' < M := by rwa [splitUpto_length] at hj'
            rw [split_get] at h' hb'
            have hgt : j < j' := by
              rcases Nat.lt_trichotomy j' j with hlt | rfl | hgt
              · obtain ⟨x, hx, he⟩ := ha j' hlt
                rw [split_get] at he
                exact absurd he (hb' x (by simp [hx]))
              · exact absurd rfl (hb' ⟨⟨(splitElt n j').f0, (splitElt n j').f1⟩, P, Q, T, m⟩ (by simp))
              · exact hgt
            rw [h']
            simp only
            rw [if_pos trivial]
            have := miss_l1 n M (by omega) j j' hj'2 hgt M 0 k' (by omega) (by omega)
            rwa [if_neg (by omega)] at this
end Go.Proofs.Ytbpobnlkfpjijaa.Pr
end
