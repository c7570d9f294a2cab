-- Laid by a program (wip/pr.sh), out of the translation.
import Derived.Test.YtbpobnlkfpjijaaPr0
namespace Go.Proofs.Ytbpobnlkfpjijaa.Pr
open Go.RowKit Go.Proofs.YtbpobnlkfpjijaaW.PrintWords Go.Proofs.YtbpobnlkfpjijaaW.PrintLast Go.Proofs.YtbpobnlkfpjijaaW.PrintMore
attribute [local go_sem] max2_int min2_int max_two min_two max_three min_three max_four min_four   -- for this text's walks alone
set_option linter.unusedVariables false
set_option linter.unusedSimpArgs false

attribute [local go_sem] Go.Proofs.Aid.cell_set_row
/-! ### tallystickref15_bit: function 64 -/
def tallystickref15_bit.l0 : Nat → Int → Int → Option (Bool)
  | 0, _, _ => none
  | k + 1, x0, x1 => if x1 > 0 then (tallystickref15_bit.l0 k (IntKind.u64.wrap (Int.tdiv x0 2)) (wrap64 (x1 - 1))) else (some ((Int.tmod x0 2) == 1))
def tallystickref15_bit.f (k : Nat) (a0 : Int) (a1 : Int) : Option (Bool) := tallystickref15_bit.l0 k a0 a1
theorem tallystickref15_bit.mono_l : ∀ k, (∀ y0 y1, LeO (tallystickref15_bit.l0 k y0 y1) (tallystickref15_bit.l0 (k + 1) y0 y1))
  | 0 => fun _ _ r h => by simp [tallystickref15_bit.l0] at h
  | k + 1 => by
    have ih0 := tallystickref15_bit.mono_l k
    · intro y0 y1
      unfold tallystickref15_bit.l0
      repeat' first
      | (with_reducible exact ih0 _ _)
      | (with_reducible exact LeO.refl _)
      | (with_reducible exact LeO.none _)
      | (with_reducible refine LeO.ite ?_ ?_)
      | (with_reducible refine LeO.bind ?_ (fun _ => ?_))
      | exact ih0 _ _
      | exact LeO.none _
      | refine LeO.ite ?_ ?_
      | refine LeO.bind ?_ (fun _ => ?_)
theorem tallystickref15_bit.mono : ∀ a0 a1 k, LeO (tallystickref15_bit.f k a0 a1) (tallystickref15_bit.f (k + 1) a0 a1) := by
  intro a0 a1 k
  have ih0 := tallystickref15_bit.mono_l k
  unfold tallystickref15_bit.f
  repeat' first
      | (with_reducible exact ih0 _ _)
      | (with_reducible exact LeO.refl _)
      | (with_reducible exact LeO.none _)
      | (with_reducible refine LeO.ite ?_ ?_)
      | (with_reducible refine LeO.bind ?_ (fun _ => ?_))
      | exact ih0 _ _
      | exact LeO.none _
      | refine LeO.ite ?_ ?_
      | refine LeO.bind ?_ (fun _ => ?_)
set_option maxHeartbeats 8000000 in
set_option maxRecDepth 100000 in
theorem tallystickref15_bit.calls (k : Nat) (a0 : Int) (a1 : Int) (r : Bool) (w : World) (h : tallystickref15_bit.f k a0 a1 = some r) :
    Calls Try.prog 64 #[.int .u64 a0, .int .i64 a1] w fun e w' => e = .returned (.bool r) ∧ Drawn0 w w' := by
  have H : (tallystickref15_bit.l0 k a0 a1) = some r := h
  clear h
  have H' := Aside0.mk H
  clear H
  go_enter Try.func64, Try.ntmps64
  go_wp2
  go_loopg [0, 1] k (fun kq v0 v1 w' => ∃ (x0_1 : Int) (x1_1 : Int), v0 = .int .u64 x0_1 ∧ v1 = .int .i64 x1_1 ∧ Aside0 (tallystickref15_bit.l0 kq x0_1 x1_1 = some r) ∧ Aside0 (kq ≤ k) ∧ Drawn0 w w')
  case atStart => exact ⟨(a0), (a1), (by first | rfl | (simp; done) | (simp [*]; done)), (by first | rfl | (simp; done) | (simp [*]; done)), H', ⟨Nat.le_refl _⟩, by repeat (first | exact Drawn0.refl _ | apply Drawn0.step)⟩
  case round =>
    clear H'
    try clear p2
    obtain ⟨x0_1, x1_1, rfl, rfl, HA, HK1, ⟨m1, rfl⟩⟩ := hrel
    cases gk with
    | zero => exact absurd HA.out (by simp [tallystickref15_bit.l0])
    | succ k1 =>
      have H := HA.out
      clear HA
      simp only [tallystickref15_bit.l0] at H
      by_cases c3 : x1_1 > 0
      · rw [if_pos c3] at H
        have c3b0 : decide (0 < x1_1) = true := decide_eq_true c3
        clear c3
        have H' := Aside0.mk H
        clear H
        go_wp2
        go_roundg k1
        case measure => have := HK1.out; omega
        case rel => exact ⟨(IntKind.u64.wrap (Int.tdiv x0_1 2)), (wrap64 (x1_1 - 1)), (by first | rfl | (simp; done) | (simp [*]; done)), (by first | rfl | (simp; done) | (simp [*]; done)), H', ⟨by have := HK1.out; omega⟩, by repeat (first | exact Drawn0.refl _ | apply Drawn0.step)⟩
      · rw [if_neg c3] at H
        have c3b0 : decide (0 < x1_1) = false := decide_eq_false c3
        clear c3
        obtain rfl := Option.some.inj H
        go_wp2
        go_ret
        exact ⟨by first | rfl | (simp; done) | (simp [*]; done), by repeat (first | exact Drawn0.refl _ | apply Drawn0.step)⟩

end Go.Proofs.Ytbpobnlkfpjijaa.Pr
