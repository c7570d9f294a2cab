import Derived.Test.YtbpobnlkfpjijaaLe
import Derived.Test.YtbpobnlkfpjijaaPr90
/-! DiskTwice is true. -/
namespace Go.Proofs.Ytbpobnlkfpjijaa.Pr
open Go.RowKit Go.Proofs.YtbpobnlkfpjijaaW.PrintWords Go.Proofs.YtbpobnlkfpjijaaW.PrintLast Go.Proofs.YtbpobnlkfpjijaaW.PrintMore
set_option linter.unusedVariables false
set_option linter.unusedSimpArgs false
theorem twice_loop (l2 : List Int) (a : Int) (l c all : List S55) (hl : l.length ≤ 64) (hall : all.length = l.length) (hA : ∀ (i : Nat) (h : i < l.length), rd_T55 all (i : Int) = ⟨l[i].f0, l[i].f1, l[i].f1⟩) (hcf : Fits c l2) (hc : c.length = l.length) (hcc : c.mapIdx (crashAt l2) = c) :
    ∀ (d i k : Nat), l.length - i = d → i ≤ l.length → d + 100 < k → tallysticklaw15_DiskTwice.l0 k l2 true (i : Int) a l a c a all = some true
  | d, i, 0, _, _, hk => by omega
  | d, i, k + 1, hd, hi, hk => by
    unfold tallysticklaw15_DiskTwice.l0
    by_cases h : (i : Int) < (l.length : Int)
    · have hw : wrap64 ((i : Int) + 1) = ((i + 1 : Nat) : Int) := by unfold wrap64; omega
      rw [if_pos h, if_pos (by omega), if_pos (by omega), hA i (by omega), rd_nil_lt l i (by omega), if_pos rfl, if_pos rfl, hw]
      exact twice_loop l2 a l c all hl hall hA hcf hc hcc (d - 1) (i + 1) k (by omega) (by omega) (by omega)
    · rw [if_neg h, if_pos rfl, crash_some a c l2 (by omega) hcf, Option.bind_some, hcc]
      simp only
      rw [same_self a c (by omega) k (by omega)]
      rfl
theorem twice_true (a : Int) (l : List S55) (l1 l2 : List Int) (hf : Fits l l1) (h2 : ∀ m ∈ l2, 0 ≤ m ∧ m < 18446744073709551616) : tallysticklaw15_DiskTwice.f 300 a l l1 l2 = some true := by
  unfold tallysticklaw15_DiskTwice.f
  obtain ⟨b, hr, hb⟩ := right_total a l
  rw [shown_true 300 (by omega), Option.bind_some, hr 300 (by omega), Option.bind_some]
  cases b with
  | false => rfl
  | true =>
    have hl := (hb rfl).1
    have hf1 : Fits l [18446744073709551615] := ⟨hf.1, by simp⟩
    rw [if_pos rfl, crash_some a l l1 hl hf, Option.bind_some, crash_some a l _ hl hf1, Option.bind_some]
    simp only [List.length_mapIdx]
    rw [if_pos trivial]
    refine twice_loop l2 a l _ _ hl (by simp) (fun i h => ?_) (crash_fits hf h2) (by simp) (crash_twice l1 l2 l) l.length 0 300 (by omega) (by omega) (by omega)
    rw [rd_mapIdx _ _ _ h, rd_nil_lt _ _ h]
    have hm : maskAt [18446744073709551615] i = 18446744073709551615 := by
      unfold maskAt
      rw [if_neg (by decide)]
      simp [Nat.mod_one]
    simp [crashAt, hm, keptF_all]
end Go.Proofs.Ytbpobnlkfpjijaa.Pr
