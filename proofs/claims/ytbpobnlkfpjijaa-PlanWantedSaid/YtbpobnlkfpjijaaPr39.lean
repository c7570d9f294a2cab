-- Laid by a program (wip/pr.sh), out of the translation.
import Derived.Test.YtbpobnlkfpjijaaPr0
import Derived.Test.YtbpobnlkfpjijaaPr31
import Derived.Test.YtbpobnlkfpjijaaPr32
import Derived.Test.YtbpobnlkfpjijaaPr36
import Derived.Test.YtbpobnlkfpjijaaPr38
namespace Go.Proofs.Ytbpobnlkfpjijaa.Pr
open Go.RowKit Go.Proofs.YtbpobnlkfpjijaaW.PrintWords Go.Proofs.YtbpobnlkfpjijaaW.PrintLast Go.Proofs.YtbpobnlkfpjijaaW.PrintMore
attribute [local go_sem] max2_int min2_int max_two min_two max_three min_three max_four min_four   -- for this text's walks alone
set_option linter.unusedVariables false
set_option linter.unusedSimpArgs false

attribute [local go_sem] Go.Proofs.Aid.cell_set_row
/-! ### tallysticklaw19_PlanWanted: function 4 -/
mutual
def tallysticklaw19_PlanWanted.j0 : Nat → Int → Int → Int → Bool → Int → Bool → Option (Bool)
  | 0, _, _, _, _, _, _ => none
  | k + 1, x0, x1, x2, x7, x8, x9 => if ((x8 == 0) != x9) = true then (some false) else (if x8 = 0 then (if x1 > 60 then (tallysticklaw19_PlanWanted.j1 k x0 x1 x2 x7 true) else (tallysticklaw19_PlanWanted.j1 k x0 x1 x2 x7 (decide (x2 > 2)))) else (tallysticklaw19_PlanWanted.j1 k x0 x1 x2 x7 true))
def tallysticklaw19_PlanWanted.j1 : Nat → Int → Int → Int → Bool → Bool → Option (Bool)
  | 0, _, _, _, _, _ => none
  | k + 1, x0, x1, x2, x7, x43 => if x43 = true then (some x7) else ((plan_Job.f x0 x1 x2).bind fun bt248 => ((plan_Pieces.f k bt248.1 bt248.2.1 bt248.2.2).bind fun t251 => (if (t251.length : Int) = 0 then (tallysticklaw19_PlanWanted.j2 k x7 t251 true) else (if 0 < (t251.length : Int) then (tallysticklaw19_PlanWanted.j2 k x7 t251 (((rd_T29 t251 0).f0) != 0)) else (none)))))
def tallysticklaw19_PlanWanted.j2 : Nat → Bool → List (S29) → Bool → Option (Bool)
  | 0, _, _, _ => none
  | k + 1, x7, x10, x59 => if x59 = true then (some false) else (tallysticklaw19_PlanWanted.l0 k x7 x10 1)
def tallysticklaw19_PlanWanted.l0 : Nat → Bool → List (S29) → Int → Option (Bool)
  | 0, _, _, _ => none
  | k + 1, x7, x10, x11 => if x11 < (x10.length : Int) then (if 0 ≤ x11 then (if 0 ≤ (wrap64 (x11 - 1)) then (if (wrap64 (x11 - 1)) < (x10.length : Int) then (if ((rd_T29 x10 x11).f0) = ((rd_T29 x10 (wrap64 (x11 - 1))).f1) then (if ((rd_T29 x10 x11).f1) ≤ ((rd_T29 x10 x11).f0) then (some false) else (tallysticklaw19_PlanWanted.l0 k x7 x10 (wrap64 (x11 + 1)))) else (some false)) else (none)) else (none)) else (none)) else (some x7)
end
def tallysticklaw19_PlanWanted.f (k : Nat) (a0 : Int) (a1 : Int) (a2 : Int) : Option (Bool) := (tallysticklaw19_shown.f k).bind fun t246 => ((plan_Wanted.f k a0 a1).bind fun t247 => (if a0 = 1 then (if a1 ≥ 1 then (tallysticklaw19_PlanWanted.j0 k a0 a1 a2 t246 t247 (decide (a1 ≤ 1000))) else (tallysticklaw19_PlanWanted.j0 k a0 a1 a2 t246 t247 false)) else (if a0 = 2 then (if a1 ≥ 1 then (tallysticklaw19_PlanWanted.j0 k a0 a1 a2 t246 t247 (decide (a1 ≤ 1000))) else (tallysticklaw19_PlanWanted.j0 k a0 a1 a2 t246 t247 false)) else (tallysticklaw19_PlanWanted.j0 k a0 a1 a2 t246 t247 false))))
theorem tallysticklaw19_PlanWanted.mono_l : ∀ k, (∀ y0 y1 y2 y3 y4 y5, LeO (tallysticklaw19_PlanWanted.j0 k y0 y1 y2 y3 y4 y5) (tallysticklaw19_PlanWanted.j0 (k + 1) y0 y1 y2 y3 y4 y5)) ∧ (∀ y0 y1 y2 y3 y4, LeO (tallysticklaw19_PlanWanted.j1 k y0 y1 y2 y3 y4) (tallysticklaw19_PlanWanted.j1 (k + 1) y0 y1 y2 y3 y4)) ∧ (∀ y0 y1 y2, LeO (tallysticklaw19_PlanWanted.j2 k y0 y1 y2) (tallysticklaw19_PlanWanted.j2 (k + 1) y0 y1 y2)) ∧ (∀ y0 y1 y2, LeO (tallysticklaw19_PlanWanted.l0 k y0 y1 y2) (tallysticklaw19_PlanWanted.l0 (k + 1) y0 y1 y2))
  | 0 => ⟨fun _ _ _ _ _ _ r h => by simp [tallysticklaw19_PlanWanted.j0] at h, fun _ _ _ _ _ r h => by simp [tallysticklaw19_PlanWanted.j1] at h, fun _ _ _ r h => by simp [tallysticklaw19_PlanWanted.j2] at h, fun _ _ _ r h => by simp [tallysticklaw19_PlanWanted.l0] at h⟩
  | k + 1 => by
    obtain ⟨ih0, ih1, ih2, ih3⟩ := tallysticklaw19_PlanWanted.mono_l k
    refine ⟨?_, ?_, ?_, ?_⟩
    · intro y0 y1 y2 y3 y4 y5
      unfold tallysticklaw19_PlanWanted.j0
      repeat' first
      | (with_reducible exact ih0 _ _ _ _ _ _)
      | (with_reducible exact ih1 _ _ _ _ _)
      | (with_reducible exact ih2 _ _ _)
      | (with_reducible exact ih3 _ _ _)
      | (with_reducible exact plan_Pieces.mono _ _ _ _)
      | (with_reducible exact plan_Wanted.mono _ _ _)
      | (with_reducible exact tallysticklaw19_shown.mono _)
      | (with_reducible exact LeO.refl _)
      | (with_reducible exact LeO.none _)
      | (with_reducible refine LeO.ite ?_ ?_)
      | (with_reducible refine LeO.bind ?_ (fun _ => ?_))
      | exact ih0 _ _ _ _ _ _
      | exact ih1 _ _ _ _ _
      | exact ih2 _ _ _
      | exact ih3 _ _ _
      | exact plan_Pieces.mono _ _ _ _
      | exact plan_Wanted.mono _ _ _
      | exact tallysticklaw19_shown.mono _
      | exact LeO.none _
      | refine LeO.ite ?_ ?_
      | refine LeO.bind ?_ (fun _ => ?_)
    · intro y0 y1 y2 y3 y4
      unfold tallysticklaw19_PlanWanted.j1
      repeat' first
      | (with_reducible exact ih0 _ _ _ _ _ _)
      | (with_reducible exact ih1 _ _ _ _ _)
      | (with_reducible exact ih2 _ _ _)
      | (with_reducible exact ih3 _ _ _)
      | (with_reducible exact plan_Pieces.mono _ _ _ _)
      | (with_reducible exact plan_Wanted.mono _ _ _)
      | (with_reducible exact tallysticklaw19_shown.mono _)
      | (with_reducible exact LeO.refl _)
      | (with_reducible exact LeO.none _)
      | (with_reducible refine LeO.ite ?_ ?_)
      | (with_reducible refine LeO.bind ?_ (fun _ => ?_))
      | exact ih0 _ _ _ _ _ _
      | exact ih1 _ _ _ _ _
      | exact ih2 _ _ _
      | exact ih3 _ _ _
      | exact plan_Pieces.mono _ _ _ _
      | exact plan_Wanted.mono _ _ _
      | exact tallysticklaw19_shown.mono _
      | exact LeO.none _
      | refine LeO.ite ?_ ?_
      | refine LeO.bind ?_ (fun _ => ?_)
    · intro y0 y1 y2
      unfold tallysticklaw19_PlanWanted.j2
      repeat' first
      | (with_reducible exact ih0 _ _ _ _ _ _)
      | (with_reducible exact ih1 _ _ _ _ _)
      | (with_reducible exact ih2 _ _ _)
      | (with_reducible exact ih3 _ _ _)
      | (with_reducible exact plan_Pieces.mono _ _ _ _)
      | (with_reducible exact plan_Wanted.mono _ _ _)
      | (with_reducible exact tallysticklaw19_shown.mono _)
      | (with_reducible exact LeO.refl _)
      | (with_reducible exact LeO.none _)
      | (with_reducible refine LeO.ite ?_ ?_)
      | (with_reducible refine LeO.bind ?_ (fun _ => ?_))
      | exact ih0 _ _ _ _ _ _
      | exact ih1 _ _ _ _ _
      | exact ih2 _ _ _
      | exact ih3 _ _ _
      | exact plan_Pieces.mono _ _ _ _
      | exact plan_Wanted.mono _ _ _
      | exact tallysticklaw19_shown.mono _
      | exact LeO.none _
      | refine LeO.ite ?_ ?_
      | refine LeO.bind ?_ (fun _ => ?_)
    · intro y0 y1 y2
      unfold tallysticklaw19_PlanWanted.l0
      repeat' first
      | (with_reducible exact ih0 _ _ _ _ _ _)
      | (with_reducible exact ih1 _ _ _ _ _)
      | (with_reducible exact ih2 _ _ _)
      | (with_reducible exact ih3 _ _ _)
      | (with_reducible exact plan_Pieces.mono _ _ _ _)
      | (with_reducible exact plan_Wanted.mono _ _ _)
      | (with_reducible exact tallysticklaw19_shown.mono _)
      | (with_reducible exact LeO.refl _)
      | (with_reducible exact LeO.none _)
      | (with_reducible refine LeO.ite ?_ ?_)
      | (with_reducible refine LeO.bind ?_ (fun _ => ?_))
      | exact ih0 _ _ _ _ _ _
      | exact ih1 _ _ _ _ _
      | exact ih2 _ _ _
      | exact ih3 _ _ _
      | exact plan_Pieces.mono _ _ _ _
      | exact plan_Wanted.mono _ _ _
      | exact tallysticklaw19_shown.mono _
      | exact LeO.none _
      | refine LeO.ite ?_ ?_
      | refine LeO.bind ?_ (fun _ => ?_)
theorem tallysticklaw19_PlanWanted.mono : ∀ a0 a1 a2 k, LeO (tallysticklaw19_PlanWanted.f k a0 a1 a2) (tallysticklaw19_PlanWanted.f (k + 1) a0 a1 a2) := by
  intro a0 a1 a2 k
  obtain ⟨ih0, ih1, ih2, ih3⟩ := tallysticklaw19_PlanWanted.mono_l k
  unfold tallysticklaw19_PlanWanted.f
  repeat' first
      | (with_reducible exact ih0 _ _ _ _ _ _)
      | (with_reducible exact ih1 _ _ _ _ _)
      | (with_reducible exact ih2 _ _ _)
      | (with_reducible exact ih3 _ _ _)
      | (with_reducible exact plan_Pieces.mono _ _ _ _)
      | (with_reducible exact plan_Wanted.mono _ _ _)
      | (with_reducible exact tallysticklaw19_shown.mono _)
      | (with_reducible exact LeO.refl _)
      | (with_reducible exact LeO.none _)
      | (with_reducible refine LeO.ite ?_ ?_)
      | (with_reducible refine LeO.bind ?_ (fun _ => ?_))
      | exact ih0 _ _ _ _ _ _
      | exact ih1 _ _ _ _ _
      | exact ih2 _ _ _
      | exact ih3 _ _ _
      | exact plan_Pieces.mono _ _ _ _
      | exact plan_Wanted.mono _ _ _
      | exact tallysticklaw19_shown.mono _
      | exact LeO.none _
      | refine LeO.ite ?_ ?_
      | refine LeO.bind ?_ (fun _ => ?_)
set_option maxHeartbeats 8000000 in
set_option maxRecDepth 100000 in
theorem tallysticklaw19_PlanWanted.calls (k : Nat) (a0 : Int) (a1 : Int) (a2 : Int) (r : Bool) (w : World) (h : tallysticklaw19_PlanWanted.f k a0 a1 a2 = some r) :
    Calls Try.prog 4 #[.int .i64 a0, .int .i64 a1, .int .i64 a2] w fun e w' => e = .returned (.bool r) ∧ Below w.heap.size w w' := by
  have HB := Aside0.mk (Below.refl w.heap.size w)
  have H : ((tallysticklaw19_shown.f k).bind fun t246 => ((plan_Wanted.f k a0 a1).bind fun t247 => (if a0 = 1 then (if a1 ≥ 1 then (tallysticklaw19_PlanWanted.j0 k a0 a1 a2 t246 t247 (decide (a1 ≤ 1000))) else (tallysticklaw19_PlanWanted.j0 k a0 a1 a2 t246 t247 false)) else (if a0 = 2 then (if a1 ≥ 1 then (tallysticklaw19_PlanWanted.j0 k a0 a1 a2 t246 t247 (decide (a1 ≤ 1000))) else (tallysticklaw19_PlanWanted.j0 k a0 a1 a2 t246 t247 false)) else (tallysticklaw19_PlanWanted.j0 k a0 a1 a2 t246 t247 false))))) = some r := h
  clear h
  replace H := Option.bind_eq_some_iff.mp H
  obtain ⟨t246, A40, H⟩ := H
  replace H : ((plan_Wanted.f k a0 a1).bind fun t247 => (if a0 = 1 then (if a1 ≥ 1 then (tallysticklaw19_PlanWanted.j0 k a0 a1 a2 t246 t247 (decide (a1 ≤ 1000))) else (tallysticklaw19_PlanWanted.j0 k a0 a1 a2 t246 t247 false)) else (if a0 = 2 then (if a1 ≥ 1 then (tallysticklaw19_PlanWanted.j0 k a0 a1 a2 t246 t247 (decide (a1 ≤ 1000))) else (tallysticklaw19_PlanWanted.j0 k a0 a1 a2 t246 t247 false)) else (tallysticklaw19_PlanWanted.j0 k a0 a1 a2 t246 t247 false)))) = some r := H
  have A4 := Aside0.mk A40
  clear A40
  replace H := Option.bind_eq_some_iff.mp H
  obtain ⟨t247, A50, H⟩ := H
  replace H : (if a0 = 1 then (if a1 ≥ 1 then (tallysticklaw19_PlanWanted.j0 k a0 a1 a2 t246 t247 (decide (a1 ≤ 1000))) else (tallysticklaw19_PlanWanted.j0 k a0 a1 a2 t246 t247 false)) else (if a0 = 2 then (if a1 ≥ 1 then (tallysticklaw19_PlanWanted.j0 k a0 a1 a2 t246 t247 (decide (a1 ≤ 1000))) else (tallysticklaw19_PlanWanted.j0 k a0 a1 a2 t246 t247 false)) else (tallysticklaw19_PlanWanted.j0 k a0 a1 a2 t246 t247 false))) = some r := H
  have A5 := Aside0.mk A50
  clear A50
  have HC6 := Aside0.mk H
  clear H
  go_enter Try.func4, Try.ntmps4
  go_upto_region 3 with (first | (go_at_call 12; (with_reducible refine (tallysticklaw19_shown.calls k  t246 _ A4.out).mono ?_); rintro e w7 ⟨rfl, hb⟩; have n0_ := Aside0.mk (below_step (by repeat (first | (with_reducible first | exact HB.out | apply below_alloc | apply pw_below_drewN | apply below_drew1) | exact HB.out)) hb); clear HB; have HB := n0_; clear n0_; (try clear hb); (try clear hb2); (try clear hk); (try clear hi)) | (go_at_call 15; (with_reducible refine (plan_Wanted.calls k a0 a1 t247 _ A5.out).mono ?_); rintro e w' ⟨rfl, ⟨nd, rfl⟩⟩; (try first | exact ⟨rfl, _, World.drewN_drewN _ _ _⟩ | exact ⟨rfl, _, Eq.trans (World.drewN_drewN _ _ _) (congrArg (World.drewN _) (Nat.add_assoc _ _ _))⟩)))
  repeat (go_quiet (first | (go_at_call 12; (with_reducible refine (tallysticklaw19_shown.calls k  t246 _ A4.out).mono ?_); rintro e w7 ⟨rfl, hb⟩; have n0_ := Aside0.mk (below_step (by repeat (first | (with_reducible first | exact HB.out | apply below_alloc | apply pw_below_drewN | apply below_drew1) | exact HB.out)) hb); clear HB; have HB := n0_; clear n0_; (try clear hb); (try clear hb2); (try clear hk); (try clear hi)) | (go_at_call 15; (with_reducible refine (plan_Wanted.calls k a0 a1 t247 _ A5.out).mono ?_); rintro e w' ⟨rfl, ⟨nd, rfl⟩⟩; (try first | exact ⟨rfl, _, World.drewN_drewN _ _ _⟩ | exact ⟨rfl, _, Eq.trans (World.drewN_drewN _ _ _) (congrArg (World.drewN _) (Nat.add_assoc _ _ _))⟩))); go_upto_region 3 with (first | (go_at_call 12; (with_reducible refine (tallysticklaw19_shown.calls k  t246 _ A4.out).mono ?_); rintro e w7 ⟨rfl, hb⟩; have n0_ := Aside0.mk (below_step (by repeat (first | (with_reducible first | exact HB.out | apply below_alloc | apply pw_below_drewN | apply below_drew1) | exact HB.out)) hb); clear HB; have HB := n0_; clear n0_; (try clear hb); (try clear hb2); (try clear hk); (try clear hi)) | (go_at_call 15; (with_reducible refine (plan_Wanted.calls k a0 a1 t247 _ A5.out).mono ?_); rintro e w' ⟨rfl, ⟨nd, rfl⟩⟩; (try first | exact ⟨rfl, _, World.drewN_drewN _ _ _⟩ | exact ⟨rfl, _, Eq.trans (World.drewN_drewN _ _ _) (congrArg (World.drewN _) (Nat.add_assoc _ _ _))⟩))))
  (try simp only [Act.put, List.setIfInBounds_toArray, List.set_cons_zero, List.set_cons_succ])
  go_cut [9] (fun v9 wc => ∃ (kq : Nat) (x9_5 : Bool), v9 = .bool x9_5 ∧ Aside0 (tallysticklaw19_PlanWanted.j0 kq a0 a1 a2 t246 t247 x9_5 = some r) ∧ Aside0 (kq ≤ k) ∧ Aside0 (Below w.heap.size w wc))
  case first =>
    have H := HC6.out
    clear HC6
    by_cases c8 : a0 = 1
    · rw [if_pos c8] at H
      have c8b0 : (a0 == 1) = true := beq_iff_eq.mpr c8
      have c8b1 : (a0 != 1) = false := bne_eq_false_iff_eq.mpr c8
      clear c8
      (first | rw [c8b0] | (simp only [i64_w, i32_w]; rw [c8b0]) | skip)
      by_cases c9 : a1 ≥ 1
      · rw [if_pos c9] at H
        have c9b0 : decide (1 ≤ a1) = true := decide_eq_true c9
        clear c9
        have H' := Aside0.mk H
        clear H
        go_wp2
        repeat (go_quiet (fail); try go_wp2)
        go_meet
        case rel => exact ⟨_, (decide (a1 ≤ 1000)), (by first | rfl | (simp; done) | (simp [*]; done)), H', ⟨by first | omega | exact Nat.le_refl _⟩, ⟨by repeat (first | (with_reducible first | exact HB.out | apply below_alloc | apply pw_below_drewN | apply below_drew1) | exact HB.out)⟩⟩
      · rw [if_neg c9] at H
        have c9b0 : decide (1 ≤ a1) = false := decide_eq_false c9
        clear c9
        have H' := Aside0.mk H
        clear H
        go_wp2
        repeat (go_quiet (fail); try go_wp2)
        go_meet
        case rel => exact ⟨_, (false), (by first | rfl | (simp; done) | (simp [*]; done)), H', ⟨by first | omega | exact Nat.le_refl _⟩, ⟨by repeat (first | (with_reducible first | exact HB.out | apply below_alloc | apply pw_below_drewN | apply below_drew1) | exact HB.out)⟩⟩
    · rw [if_neg c8] at H
      have c8b0 : (a0 == 1) = false := beq_eq_false_iff_ne.mpr c8
      have c8b1 : (a0 != 1) = true := bne_iff_ne.mpr c8
      (first | rw [c8b0] | (simp only [i64_w, i32_w]; rw [c8b0]) | skip)
      by_cases c10 : a0 = 2
      · rw [if_pos c10] at H
        have c10b0 : (a0 == 2) = true := beq_iff_eq.mpr c10
        have c10b1 : (a0 != 2) = false := bne_eq_false_iff_eq.mpr c10
        clear c10
        by_cases c11 : a1 ≥ 1
        · rw [if_pos c11] at H
          have c11b0 : decide (1 ≤ a1) = true := decide_eq_true c11
          clear c11
          have H' := Aside0.mk H
          clear H
          go_wp2
          repeat (go_quiet (fail); try go_wp2)
          go_meet
          case rel => exact ⟨_, (decide (a1 ≤ 1000)), (by first | rfl | (simp; done) | (simp [*]; done)), H', ⟨by first | omega | exact Nat.le_refl _⟩, ⟨by repeat (first | (with_reducible first | exact HB.out | apply below_alloc | apply pw_below_drewN | apply below_drew1) | exact HB.out)⟩⟩
        · rw [if_neg c11] at H
          have c11b0 : decide (1 ≤ a1) = false := decide_eq_false c11
          clear c11
          have H' := Aside0.mk H
          clear H
          go_wp2
          repeat (go_quiet (fail); try go_wp2)
          go_meet
          case rel => exact ⟨_, (false), (by first | rfl | (simp; done) | (simp [*]; done)), H', ⟨by first | omega | exact Nat.le_refl _⟩, ⟨by repeat (first | (with_reducible first | exact HB.out | apply below_alloc | apply pw_below_drewN | apply below_drew1) | exact HB.out)⟩⟩
      · rw [if_neg c10] at H
        have c10b0 : (a0 == 2) = false := beq_eq_false_iff_ne.mpr c10
        have c10b1 : (a0 != 2) = true := bne_iff_ne.mpr c10
        have H' := Aside0.mk H
        clear H
        go_wp2
        repeat (go_quiet (fail); try go_wp2)
        go_meet
        case rel => exact ⟨_, (false), (by first | rfl | (simp; done) | (simp [*]; done)), H', ⟨by first | omega | exact Nat.le_refl _⟩, ⟨by repeat (first | (with_reducible first | exact HB.out | apply below_alloc | apply pw_below_drewN | apply below_drew1) | exact HB.out)⟩⟩
  case rest =>
    clear HC6
    try clear c1
    try clear p2
    try clear c4
    try clear c8
    try clear c8b0
    try clear c8b1
    try clear c9
    try clear c9b0
    try clear c10
    try clear c10b0
    try clear c10b1
    try clear c11
    try clear c11b0
    obtain ⟨kq, x9_5, rfl, HA, HJ5, HB⟩ := hcut
    cases kq with
    | zero => exact absurd HA.out (by simp [tallysticklaw19_PlanWanted.j0])
    | succ kj5 =>
      have H := HA.out
      clear HA
      simp only [tallysticklaw19_PlanWanted.j0] at H
      by_cases c12 : ((t247 == 0) != x9_5) = true
      · rw [if_pos c12] at H
        have c12b0 : ((t247 == 0) != x9_5) = true := c12
        (try (have c12b1 : decide ((t247 == 0) = x9_5) = false := by simpa using c12))
        (try (have c12b2 : ((t247 == 0) == x9_5) = false := by simpa using c12))
        (try (have c12b3 : ¬ ((t247 == 0) = x9_5) := by simpa using c12))
        clear c12
        obtain rfl := Option.some.inj H
        go_wp2
        repeat (go_quiet (fail); try go_wp2)
        go_ret
        exact ⟨by first | rfl | (simp [errW_none, errW_some] <;> rfl) | (simp [*, errW_none, errW_some] <;> rfl), by repeat (first | (with_reducible first | exact HB.out | apply below_alloc | apply pw_below_drewN | apply below_drew1) | exact HB.out)⟩
      · rw [if_neg c12] at H
        have c12b0 : ((t247 == 0) != x9_5) = false := by simpa using c12
        (try (have c12b1 : decide ((t247 == 0) = x9_5) = true := by simpa using c12))
        (try (have c12b2 : ((t247 == 0) == x9_5) = true := by simpa using c12))
        clear c12
        have HC13 := Aside0.mk H
        clear H
        go_upto_region 6 with (fail)
        repeat (go_quiet (fail); go_upto_region 6 with (fail))
        go_cut [43] (fun v43 wc => ∃ (kq : Nat) (x43_12 : Bool), v43 = .bool x43_12 ∧ Aside0 (tallysticklaw19_PlanWanted.j1 kq a0 a1 a2 t246 x43_12 = some r) ∧ Aside0 (kq ≤ kj5) ∧ Aside0 (Below w.heap.size w wc))
        case first =>
          have H := HC13.out
          clear HC13
          by_cases c14 : t247 = 0
          · rw [if_pos c14] at H
            have c14b0 : (t247 == 0) = true := beq_iff_eq.mpr c14
            have c14b1 : (t247 != 0) = false := bne_eq_false_iff_eq.mpr c14
            clear c14
            (first | rw [c14b0] | (simp only [i64_w, i32_w]; rw [c14b0]) | skip)
            by_cases c15 : a1 > 60
            · rw [if_pos c15] at H
              have c15b0 : decide (60 < a1) = true := decide_eq_true c15
              clear c15
              have H' := Aside0.mk H
              clear H
              go_wp2
              repeat (go_quiet (fail); try go_wp2)
              go_meet
              case rel => exact ⟨_, (true), (by first | rfl | (simp; done) | (simp [*]; done)), H', ⟨by have := HJ5.out; first | omega | exact Nat.le_refl _⟩, ⟨by repeat (first | (with_reducible first | exact HB.out | apply below_alloc | apply pw_below_drewN | apply below_drew1) | exact HB.out)⟩⟩
            · rw [if_neg c15] at H
              have c15b0 : decide (60 < a1) = false := decide_eq_false c15
              clear c15
              have H' := Aside0.mk H
              clear H
              go_wp2
              repeat (go_quiet (fail); try go_wp2)
              go_meet
              case rel => exact ⟨_, (decide (a2 > 2)), (by first | rfl | (simp; done) | (simp [*]; done)), H', ⟨by have := HJ5.out; first | omega | exact Nat.le_refl _⟩, ⟨by repeat (first | (with_reducible first | exact HB.out | apply below_alloc | apply pw_below_drewN | apply below_drew1) | exact HB.out)⟩⟩
          · rw [if_neg c14] at H
            have c14b0 : (t247 == 0) = false := beq_eq_false_iff_ne.mpr c14
            have c14b1 : (t247 != 0) = true := bne_iff_ne.mpr c14
            (first | rw [c14b0] | (simp only [i64_w, i32_w]; rw [c14b0]) | skip)
            have H' := Aside0.mk H
            clear H
            go_wp2
            repeat (go_quiet (fail); try go_wp2)
            go_meet
            case rel => exact ⟨_, (true), (by first | rfl | (simp; done) | (simp [*]; done)), H', ⟨by have := HJ5.out; first | omega | exact Nat.le_refl _⟩, ⟨by repeat (first | (with_reducible first | exact HB.out | apply below_alloc | apply pw_below_drewN | apply below_drew1) | exact HB.out)⟩⟩
        case rest =>
          clear HC13
          try clear c1
          try clear p2
          try clear c4
          try clear c8
          try clear c8b0
          try clear c8b1
          try clear c9
          try clear c9b0
          try clear c10
          try clear c10b0
          try clear c10b1
          try clear c11
          try clear c11b0
          try clear c12
          try clear c12b0
          try clear c12b1
          try clear c12b2
          try clear c14
          try clear c14b0
          try clear c14b1
          try clear c15
          try clear c15b0
          try clear p2
          obtain ⟨kq, x43_12, rfl, HA, HJ12, HB⟩ := hcut
          cases kq with
          | zero => exact absurd HA.out (by simp [tallysticklaw19_PlanWanted.j1])
          | succ kj12 =>
            have H := HA.out
            clear HA
            simp only [tallysticklaw19_PlanWanted.j1] at H
            by_cases c16 : x43_12 = true
            · subst c16
              have H1 : (some t246) = some r := by rw [if_pos rfl] at H; exact H
              clear H
              have H := H1
              clear H1
              obtain rfl := Option.some.inj H
              go_wp2
              repeat (go_quiet (fail); try go_wp2)
              go_ret
              exact ⟨by first | rfl | (simp [errW_none, errW_some] <;> rfl) | (simp [*, errW_none, errW_some] <;> rfl), by repeat (first | (with_reducible first | exact HB.out | apply below_alloc | apply pw_below_drewN | apply below_drew1) | exact HB.out)⟩
            · replace c16 := Bool.eq_false_iff.mpr c16
              subst c16
              have H1 : ((plan_Job.f a0 a1 a2).bind fun bt248 => ((plan_Pieces.f kj12 bt248.1 bt248.2.1 bt248.2.2).bind fun t251 => (if (t251.length : Int) = 0 then (tallysticklaw19_PlanWanted.j2 kj12 t246 t251 true) else (if 0 < (t251.length : Int) then (tallysticklaw19_PlanWanted.j2 kj12 t246 t251 (((rd_T29 t251 0).f0) != 0)) else (none))))) = some r := by rw [if_neg (show ¬ (false = true) by decide)] at H; exact H
              clear H
              have H := H1
              clear H1
              replace H := Option.bind_eq_some_iff.mp H
              obtain ⟨⟨t248, t249, t250⟩, A170, H⟩ := H
              replace H : ((plan_Pieces.f kj12 t248 t249 t250).bind fun t251 => (if (t251.length : Int) = 0 then (tallysticklaw19_PlanWanted.j2 kj12 t246 t251 true) else (if 0 < (t251.length : Int) then (tallysticklaw19_PlanWanted.j2 kj12 t246 t251 (((rd_T29 t251 0).f0) != 0)) else (none)))) = some r := H
              have A17 := Aside0.mk A170
              clear A170
              replace H := Option.bind_eq_some_iff.mp H
              obtain ⟨t251, A180, H⟩ := H
              replace H : (if (t251.length : Int) = 0 then (tallysticklaw19_PlanWanted.j2 kj12 t246 t251 true) else (if 0 < (t251.length : Int) then (tallysticklaw19_PlanWanted.j2 kj12 t246 t251 (((rd_T29 t251 0).f0) != 0)) else (none))) = some r := H
              have A18 := Aside0.mk A180
              clear A180
              have HC19 := Aside0.mk H
              clear H
              go_upto_region 9 with (first | (go_at_call 16; (with_reducible refine (plan_Job.calls a0 a1 a2 t248 t249 t250 _ A17.out).mono ?_); rintro e w20 ⟨rfl, hb⟩; have n0_ := Aside0.mk (below_step (by repeat (first | (with_reducible first | exact HB.out | apply below_alloc | apply pw_below_drewN | apply below_drew1) | exact HB.out)) hb); clear HB; have HB := n0_; clear n0_; (try clear hb); (try clear hb2); (try clear hk); (try clear hi)) | (go_at_call 14; (with_reducible refine (plan_Pieces.calls kj12 t248 t249 t250 t251 _ A18.out).mono ?_); rintro e w21 ⟨v252, rfl, ho0, hb⟩; have n0_ := Aside0.mk (Kd.V_lower (Kd.V_mono (ok' := fun k_ => True) ho0 (fun k_ hk_ => trivial)) (below_size (by repeat (first | (with_reducible first | exact HB.out | apply below_alloc | apply pw_below_drewN | apply below_drew1) | exact HB.out)))); have n1_ := Aside0.mk (below_step (by repeat (first | (with_reducible first | exact HB.out | apply below_alloc | apply pw_below_drewN | apply below_drew1) | exact HB.out)) hb); clear HB; have HO253 := n0_; have HB := n1_; clear n0_ n1_; (try clear hb); (try clear hb2); (try clear hk); (try clear hi); (try clear ho0)))
              repeat (go_quiet (first | (go_at_call 16; (with_reducible refine (plan_Job.calls a0 a1 a2 t248 t249 t250 _ A17.out).mono ?_); rintro e w20 ⟨rfl, hb⟩; have n0_ := Aside0.mk (below_step (by repeat (first | (with_reducible first | exact HB.out | apply below_alloc | apply pw_below_drewN | apply below_drew1) | exact HB.out)) hb); clear HB; have HB := n0_; clear n0_; (try clear hb); (try clear hb2); (try clear hk); (try clear hi)) | (go_at_call 14; (with_reducible refine (plan_Pieces.calls kj12 t248 t249 t250 t251 _ A18.out).mono ?_); rintro e w21 ⟨v252, rfl, ho0, hb⟩; have n0_ := Aside0.mk (Kd.V_lower (Kd.V_mono (ok' := fun k_ => True) ho0 (fun k_ hk_ => trivial)) (below_size (by repeat (first | (with_reducible first | exact HB.out | apply below_alloc | apply pw_below_drewN | apply below_drew1) | exact HB.out)))); have n1_ := Aside0.mk (below_step (by repeat (first | (with_reducible first | exact HB.out | apply below_alloc | apply pw_below_drewN | apply below_drew1) | exact HB.out)) hb); clear HB; have HO253 := n0_; have HB := n1_; clear n0_ n1_; (try clear hb); (try clear hb2); (try clear hk); (try clear hi); (try clear ho0))); go_upto_region 9 with (first | (go_at_call 16; (with_reducible refine (plan_Job.calls a0 a1 a2 t248 t249 t250 _ A17.out).mono ?_); rintro e w20 ⟨rfl, hb⟩; have n0_ := Aside0.mk (below_step (by repeat (first | (with_reducible first | exact HB.out | apply below_alloc | apply pw_below_drewN | apply below_drew1) | exact HB.out)) hb); clear HB; have HB := n0_; clear n0_; (try clear hb); (try clear hb2); (try clear hk); (try clear hi)) | (go_at_call 14; (with_reducible refine (plan_Pieces.calls kj12 t248 t249 t250 t251 _ A18.out).mono ?_); rintro e w21 ⟨v252, rfl, ho0, hb⟩; have n0_ := Aside0.mk (Kd.V_lower (Kd.V_mono (ok' := fun k_ => True) ho0 (fun k_ hk_ => trivial)) (below_size (by repeat (first | (with_reducible first | exact HB.out | apply below_alloc | apply pw_below_drewN | apply below_drew1) | exact HB.out)))); have n1_ := Aside0.mk (below_step (by repeat (first | (with_reducible first | exact HB.out | apply below_alloc | apply pw_below_drewN | apply below_drew1) | exact HB.out)) hb); clear HB; have HO253 := n0_; have HB := n1_; clear n0_ n1_; (try clear hb); (try clear hb2); (try clear hk); (try clear hi); (try clear ho0))))
              (try simp only [Act.put, List.setIfInBounds_toArray, List.set_cons_zero, List.set_cons_succ])
              go_cut [59] (fun v59 wc => ∃ (kq : Nat) (x59_18 : Bool), v59 = .bool x59_18 ∧ Aside0 (tallysticklaw19_PlanWanted.j2 kq t246 t251 x59_18 = some r) ∧ Aside0 (kq ≤ kj12) ∧ Aside0 (Kd.V k29 29 wc w.heap.size (fun _ => True) v252 t251) ∧ Aside0 (Below w.heap.size w wc))
              case first =>
                have H := HC19.out
                clear HC19
                by_cases c22 : (t251.length : Int) = 0
                · rw [if_pos c22] at H
                  have c22b0 : ((t251.length : Int) == 0) = true := beq_iff_eq.mpr c22
                  have c22b1 : ((t251.length : Int) != 0) = false := bne_eq_false_iff_eq.mpr c22
                  clear c22
                  (first | rw [c22b0] | (simp only [i64_w, i32_w]; rw [c22b0]) | skip)
                  have H' := Aside0.mk H
                  clear H
                  obtain ⟨Ao23, co23, eo23⟩ := Kd.V_slice HO253.out
                  subst eo23
                  go_wp2
                  repeat (go_quiet (fail); try go_wp2)
                  go_meet
                  case rel => exact ⟨_, (true), (by first | rfl | (simp; done) | (simp [*]; done)), H', ⟨by have := HJ5.out; have := HJ12.out; first | omega | exact Nat.le_refl _⟩, ⟨by (with_reducible repeat (first | apply Kd.V_alloc | apply Kd.V_drewN | apply Kd.V_drew)); exact HO253.out⟩, ⟨by repeat (first | (with_reducible first | exact HB.out | apply below_alloc | apply pw_below_drewN | apply below_drew1) | exact HB.out)⟩⟩
                · rw [if_neg c22] at H
                  have c22b0 : ((t251.length : Int) == 0) = false := beq_eq_false_iff_ne.mpr c22
                  have c22b1 : ((t251.length : Int) != 0) = true := bne_iff_ne.mpr c22
                  have c22b2 : ¬ (t251 = []) := fun h_ => c22 (by rw [h_]; rfl)
                  (first | rw [c22b0] | (simp only [i64_w, i32_w]; rw [c22b0]) | skip)
                  by_cases c24 : 0 < (t251.length : Int)
                  · rw [if_pos c24] at H
                    have c24b0 : decide (0 < (t251.length : Int)) = true := decide_eq_true c24
                    have c24b1 : decide (0 < t251.length) = true := decide_eq_true (by omega)
                    clear c24
                    have H' := Aside0.mk H
                    clear H
                    obtain ⟨Ao25, co25, eo25⟩ := Kd.V_slice HO253.out
                    subst eo25
                    have p254 : 0 ≤ (0 : Int) := (by omega)
                    have q254 : 0 < (t251.length : Int) := of_decide_eq_true (by first | (with_reducible assumption) | assumption)
                    obtain ⟨ad254, e254, hx254_0, hx254_1⟩ := at_T29 (Kd.V_reads' HO253.out).2.2 0 p254 q254
                    cases e254
                    have qi254 : (0 < t251.length) = True := eq_true (by omega)
                    (try rw [show ((0 : Int)).toNat = 0 from rfl] at hx254_0)
                    (try rw [show 0 * 2 = 0 from rfl] at hx254_0)
                    (try rw [Addr.add_zero'] at hx254_0)
                    (try rw [show ((0 : Int)).toNat = 0 from rfl] at hx254_1)
                    (try rw [show 0 * 2 = 0 from rfl] at hx254_1)
                    (try rw [Addr.add_zero'] at hx254_1)
                    replace p254 := eq_true p254
                    replace q254 := eq_true q254
                    go_wp2
                    repeat (go_quiet (fail); try go_wp2)
                    go_meet
                    case rel => exact ⟨_, ((((rd_T29 t251 0).f0) != 0)), (by first | rfl | (simp; done) | (simp [*]; done)), H', ⟨by have := HJ5.out; have := HJ12.out; first | omega | exact Nat.le_refl _⟩, ⟨by (with_reducible repeat (first | apply Kd.V_alloc | apply Kd.V_drewN | apply Kd.V_drew)); exact HO253.out⟩, ⟨by repeat (first | (with_reducible first | exact HB.out | apply below_alloc | apply pw_below_drewN | apply below_drew1) | exact HB.out)⟩⟩
                  · rw [if_neg c24] at H
                    exact absurd H (by simp)
              case rest =>
                clear HC19
                try clear c1
                try clear c2
                try clear p2
                try clear q2
                try clear hx2
                try clear qi2
                try clear c4
                try clear c8
                try clear c8b0
                try clear c8b1
                try clear c9
                try clear c9b0
                try clear c10
                try clear c10b0
                try clear c10b1
                try clear c11
                try clear c11b0
                try clear c12
                try clear c12b0
                try clear c12b1
                try clear c12b2
                try clear c14
                try clear c14b0
                try clear c14b1
                try clear c15
                try clear c15b0
                try clear c16
                try clear c22
                try clear c22b0
                try clear c22b1
                try clear c22b2
                try clear c24
                try clear c24b0
                try clear c24b1
                try clear p25
                try clear q25
                try clear hx25
                try clear qi25
                try clear hx254_0
                try clear hx254_1
                try clear p2
                try clear p254
                try clear q254
                obtain ⟨kq, x59_18, rfl, HA, HJ18, HO_10, HB⟩ := hcut
                cases kq with
                | zero => exact absurd HA.out (by simp [tallysticklaw19_PlanWanted.j2])
                | succ kj18 =>
                  have H := HA.out
                  clear HA
                  simp only [tallysticklaw19_PlanWanted.j2] at H
                  by_cases c26 : x59_18 = true
                  · subst c26
                    have H1 : (some false) = some r := by rw [if_pos rfl] at H; exact H
                    clear H
                    have H := H1
                    clear H1
                    obtain rfl := Option.some.inj H
                    go_wp2
                    repeat (go_quiet (fail); try go_wp2)
                    go_ret
                    exact ⟨by first | rfl | (simp [errW_none, errW_some] <;> rfl) | (simp [*, errW_none, errW_some] <;> rfl), by repeat (first | (with_reducible first | exact HB.out | apply below_alloc | apply pw_below_drewN | apply below_drew1) | exact HB.out)⟩
                  · replace c26 := Bool.eq_false_iff.mpr c26
                    subst c26
                    have H1 : (tallysticklaw19_PlanWanted.l0 kj18 t246 t251 1) = some r := by rw [if_neg (show ¬ (false = true) by decide)] at H; exact H
                    clear H
                    have H := H1
                    clear H1
                    have H' := Aside0.mk H
                    clear H
                    go_wp2
                    repeat (go_quiet (fail); try go_wp2)
                    go_loopg [11] kj18 (fun kq v11 w' => ∃ (x11_4 : Int), v11 = .int .i64 x11_4 ∧ Aside0 (tallysticklaw19_PlanWanted.l0 kq t246 t251 x11_4 = some r) ∧ Aside0 (kq ≤ kj18) ∧ Aside0 (Kd.V k29 29 w' w.heap.size (fun _ => True) v252 t251) ∧ Aside0 (Below w.heap.size w w'))
                    case atStart => exact ⟨(1), (by first | rfl | (simp; done) | (simp [*]; done)), H', ⟨Nat.le_refl _⟩, ⟨by (with_reducible repeat (first | apply Kd.V_alloc | apply Kd.V_drewN | apply Kd.V_drew)); exact HO_10.out⟩, ⟨by repeat (first | (with_reducible first | exact HB.out | apply below_alloc | apply pw_below_drewN | apply below_drew1) | exact HB.out)⟩⟩
                    case round =>
                      clear H'
                      try clear c1
                      try clear c2
                      try clear p2
                      try clear q2
                      try clear hx2
                      try clear qi2
                      try clear c4
                      try clear c8
                      try clear c8b0
                      try clear c8b1
                      try clear c9
                      try clear c9b0
                      try clear c10
                      try clear c10b0
                      try clear c10b1
                      try clear c11
                      try clear c11b0
                      try clear c12
                      try clear c12b0
                      try clear c12b1
                      try clear c12b2
                      try clear c14
                      try clear c14b0
                      try clear c14b1
                      try clear c15
                      try clear c15b0
                      try clear c16
                      try clear c22
                      try clear c22b0
                      try clear c22b1
                      try clear c22b2
                      try clear c24
                      try clear c24b0
                      try clear c24b1
                      try clear p25
                      try clear q25
                      try clear hx25
                      try clear qi25
                      try clear c26
                      try clear hx254_0
                      try clear hx254_1
                      try clear p2
                      try clear p25
                      try clear p254
                      try clear q2
                      try clear q25
                      try clear q254
                      obtain ⟨x11_4, rfl, HA, HK4, HO_10, HB⟩ := hrel
                      cases gk with
                      | zero => exact absurd HA.out (by simp [tallysticklaw19_PlanWanted.l0])
                      | succ k4 =>
                        have H := HA.out
                        clear HA
                        simp only [tallysticklaw19_PlanWanted.l0] at H
                        by_cases c27 : x11_4 < (t251.length : Int)
                        · rw [if_pos c27] at H
                          have c27b0 : decide (x11_4 < (t251.length : Int)) = true := decide_eq_true c27
                          clear c27
                          by_cases c28 : 0 ≤ x11_4
                          · rw [if_pos c28] at H
                            have c28b0 : decide (0 ≤ x11_4) = true := decide_eq_true c28
                            clear c28
                            obtain ⟨ji29, hji29⟩ : ∃ j_ : Int, (wrap64 (x11_4 - 1)) = j_ := ⟨_, rfl⟩
                            replace H : (if 0 ≤ (ji29) then (if (ji29) < (t251.length : Int) then (if ((rd_T29 t251 x11_4).f0) = ((rd_T29 t251 (ji29)).f1) then (if ((rd_T29 t251 x11_4).f1) ≤ ((rd_T29 t251 x11_4).f0) then (some false) else (tallysticklaw19_PlanWanted.l0 k4 t246 t251 (wrap64 (x11_4 + 1)))) else (some false)) else (none)) else (none)) = some r := by first | (rw [hji29] at H; exact H) | (simp only [hji29] at H ⊢; exact H)
                            have hji29w : (IntKind.i64.wrap (x11_4 - 1)) = ji29 := (i64_w _).trans hji29
                            by_cases c30 : 0 ≤ (ji29)
                            · rw [if_pos c30] at H
                              have c30b0 : decide (0 ≤ (ji29)) = true := decide_eq_true c30
                              clear c30
                              by_cases c31 : (ji29) < (t251.length : Int)
                              · rw [if_pos c31] at H
                                have c31b0 : decide ((ji29) < (t251.length : Int)) = true := decide_eq_true c31
                                clear c31
                                by_cases c32 : ((rd_T29 t251 x11_4).f0) = ((rd_T29 t251 (ji29)).f1)
                                · rw [if_pos c32] at H
                                  have c32b0 : (((rd_T29 t251 x11_4).f0) == ((rd_T29 t251 (ji29)).f1)) = true := beq_iff_eq.mpr c32
                                  have c32b1 : (((rd_T29 t251 x11_4).f0) != ((rd_T29 t251 (ji29)).f1)) = false := bne_eq_false_iff_eq.mpr c32
                                  clear c32
                                  by_cases c33 : ((rd_T29 t251 x11_4).f1) ≤ ((rd_T29 t251 x11_4).f0)
                                  · rw [if_pos c33] at H
                                    have c33b0 : decide (((rd_T29 t251 x11_4).f1) ≤ ((rd_T29 t251 x11_4).f0)) = true := decide_eq_true c33
                                    clear c33
                                    obtain rfl := Option.some.inj H
                                    obtain ⟨Ao34, co34, eo34⟩ := Kd.V_slice HO_10.out
                                    subst eo34
                                    have p255 : 0 ≤ (x11_4 : Int) := of_decide_eq_true (by first | (with_reducible assumption) | assumption)
                                    have q255 : x11_4 < (t251.length : Int) := of_decide_eq_true (by first | (with_reducible assumption) | assumption)
                                    obtain ⟨ad255, e255, hx255_0, hx255_1⟩ := at_T29 (Kd.V_reads' HO_10.out).2.2 x11_4 p255 q255
                                    cases e255
                                    replace p255 := eq_true p255
                                    replace q255 := eq_true q255
                                    have p256 : 0 ≤ ((ji29) : Int) := of_decide_eq_true (by first | (with_reducible assumption) | assumption)
                                    have q256 : (ji29) < (t251.length : Int) := of_decide_eq_true (by first | (with_reducible assumption) | assumption)
                                    obtain ⟨ad256, e256, hx256_0, hx256_1⟩ := at_T29 (Kd.V_reads' HO_10.out).2.2 (ji29) p256 q256
                                    obtain rfl : ad255 = ad256 := (by injection e256)
                                    replace p256 := eq_true p256
                                    replace q256 := eq_true q256
                                    have p257 : 0 ≤ (x11_4 : Int) := of_decide_eq_true (by first | (with_reducible assumption) | assumption)
                                    have q257 : x11_4 < (t251.length : Int) := of_decide_eq_true (by first | (with_reducible assumption) | assumption)
                                    obtain ⟨ad257, e257, hx257_0, hx257_1⟩ := at_T29 (Kd.V_reads' HO_10.out).2.2 x11_4 p257 q257
                                    obtain rfl : ad255 = ad257 := (by injection e257)
                                    replace p257 := eq_true p257
                                    replace q257 := eq_true q257
                                    have p258 : 0 ≤ (x11_4 : Int) := of_decide_eq_true (by first | (with_reducible assumption) | assumption)
                                    have q258 : x11_4 < (t251.length : Int) := of_decide_eq_true (by first | (with_reducible assumption) | assumption)
                                    obtain ⟨ad258, e258, hx258_0, hx258_1⟩ := at_T29 (Kd.V_reads' HO_10.out).2.2 x11_4 p258 q258
                                    obtain rfl : ad255 = ad258 := (by injection e258)
                                    replace p258 := eq_true p258
                                    replace q258 := eq_true q258
                                    go_wp2
                                    repeat (go_quiet (fail); try go_wp2)
                                    go_ret
                                    exact ⟨by first | rfl | (simp [errW_none, errW_some] <;> rfl) | (simp only [← hji29]; first | rfl | (simp [errW_none, errW_some] <;> rfl)) | (simp [*, errW_none, errW_some] <;> rfl), by repeat (first | (with_reducible first | exact HB.out | apply below_alloc | apply pw_below_drewN | apply below_drew1) | exact HB.out)⟩
                                  · rw [if_neg c33] at H
                                    have c33b0 : decide (((rd_T29 t251 x11_4).f1) ≤ ((rd_T29 t251 x11_4).f0)) = false := decide_eq_false c33
                                    clear c33
                                    have H' := Aside0.mk H
                                    clear H
                                    obtain ⟨Ao35, co35, eo35⟩ := Kd.V_slice HO_10.out
                                    subst eo35
                                    have p255 : 0 ≤ (x11_4 : Int) := of_decide_eq_true (by first | (with_reducible assumption) | assumption)
                                    have q255 : x11_4 < (t251.length : Int) := of_decide_eq_true (by first | (with_reducible assumption) | assumption)
                                    obtain ⟨ad255, e255, hx255_0, hx255_1⟩ := at_T29 (Kd.V_reads' HO_10.out).2.2 x11_4 p255 q255
                                    cases e255
                                    replace p255 := eq_true p255
                                    replace q255 := eq_true q255
                                    have p256 : 0 ≤ ((ji29) : Int) := of_decide_eq_true (by first | (with_reducible assumption) | assumption)
                                    have q256 : (ji29) < (t251.length : Int) := of_decide_eq_true (by first | (with_reducible assumption) | assumption)
                                    obtain ⟨ad256, e256, hx256_0, hx256_1⟩ := at_T29 (Kd.V_reads' HO_10.out).2.2 (ji29) p256 q256
                                    obtain rfl : ad255 = ad256 := (by injection e256)
                                    replace p256 := eq_true p256
                                    replace q256 := eq_true q256
                                    have p257 : 0 ≤ (x11_4 : Int) := of_decide_eq_true (by first | (with_reducible assumption) | assumption)
                                    have q257 : x11_4 < (t251.length : Int) := of_decide_eq_true (by first | (with_reducible assumption) | assumption)
                                    obtain ⟨ad257, e257, hx257_0, hx257_1⟩ := at_T29 (Kd.V_reads' HO_10.out).2.2 x11_4 p257 q257
                                    obtain rfl : ad255 = ad257 := (by injection e257)
                                    replace p257 := eq_true p257
                                    replace q257 := eq_true q257
                                    have p258 : 0 ≤ (x11_4 : Int) := of_decide_eq_true (by first | (with_reducible assumption) | assumption)
                                    have q258 : x11_4 < (t251.length : Int) := of_decide_eq_true (by first | (with_reducible assumption) | assumption)
                                    obtain ⟨ad258, e258, hx258_0, hx258_1⟩ := at_T29 (Kd.V_reads' HO_10.out).2.2 x11_4 p258 q258
                                    obtain rfl : ad255 = ad258 := (by injection e258)
                                    replace p258 := eq_true p258
                                    replace q258 := eq_true q258
                                    go_wp2
                                    repeat (go_quiet (fail); try go_wp2)
                                    go_roundg k4
                                    case measure => have := HJ5.out; have := HJ12.out; have := HJ18.out; have := HK4.out; omega
                                    case rel => exact ⟨(wrap64 (x11_4 + 1)), (by first | rfl | (simp; done) | (simp [*]; done)), H', ⟨by have := HJ5.out; have := HJ12.out; have := HJ18.out; have := HK4.out; omega⟩, ⟨by (with_reducible repeat (first | apply Kd.V_alloc | apply Kd.V_drewN | apply Kd.V_drew)); exact HO_10.out⟩, ⟨by repeat (first | (with_reducible first | exact HB.out | apply below_alloc | apply pw_below_drewN | apply below_drew1) | exact HB.out)⟩⟩
                                · rw [if_neg c32] at H
                                  have c32b0 : (((rd_T29 t251 x11_4).f0) == ((rd_T29 t251 (ji29)).f1)) = false := beq_eq_false_iff_ne.mpr c32
                                  have c32b1 : (((rd_T29 t251 x11_4).f0) != ((rd_T29 t251 (ji29)).f1)) = true := bne_iff_ne.mpr c32
                                  obtain rfl := Option.some.inj H
                                  obtain ⟨Ao36, co36, eo36⟩ := Kd.V_slice HO_10.out
                                  subst eo36
                                  have p255 : 0 ≤ (x11_4 : Int) := of_decide_eq_true (by first | (with_reducible assumption) | assumption)
                                  have q255 : x11_4 < (t251.length : Int) := of_decide_eq_true (by first | (with_reducible assumption) | assumption)
                                  obtain ⟨ad255, e255, hx255_0, hx255_1⟩ := at_T29 (Kd.V_reads' HO_10.out).2.2 x11_4 p255 q255
                                  cases e255
                                  replace p255 := eq_true p255
                                  replace q255 := eq_true q255
                                  have p256 : 0 ≤ ((ji29) : Int) := of_decide_eq_true (by first | (with_reducible assumption) | assumption)
                                  have q256 : (ji29) < (t251.length : Int) := of_decide_eq_true (by first | (with_reducible assumption) | assumption)
                                  obtain ⟨ad256, e256, hx256_0, hx256_1⟩ := at_T29 (Kd.V_reads' HO_10.out).2.2 (ji29) p256 q256
                                  obtain rfl : ad255 = ad256 := (by injection e256)
                                  replace p256 := eq_true p256
                                  replace q256 := eq_true q256
                                  go_wp2
                                  repeat (go_quiet (fail); try go_wp2)
                                  go_ret
                                  exact ⟨by first | rfl | (simp [errW_none, errW_some] <;> rfl) | (simp only [← hji29]; first | rfl | (simp [errW_none, errW_some] <;> rfl)) | (simp [*, errW_none, errW_some] <;> rfl), by repeat (first | (with_reducible first | exact HB.out | apply below_alloc | apply pw_below_drewN | apply below_drew1) | exact HB.out)⟩
                              · rw [if_neg c31] at H
                                exact absurd H (by simp)
                            · rw [if_neg c30] at H
                              exact absurd H (by simp)
                          · rw [if_neg c28] at H
                            exact absurd H (by simp)
                        · rw [if_neg c27] at H
                          have c27b0 : decide (x11_4 < (t251.length : Int)) = false := decide_eq_false c27
                          clear c27
                          obtain rfl := Option.some.inj H
                          obtain ⟨Ao37, co37, eo37⟩ := Kd.V_slice HO_10.out
                          subst eo37
                          go_wp2
                          repeat (go_quiet (fail); try go_wp2)
                          go_ret
                          exact ⟨by first | rfl | (simp [errW_none, errW_some] <;> rfl) | (simp [*, errW_none, errW_some] <;> rfl), by repeat (first | (with_reducible first | exact HB.out | apply below_alloc | apply pw_below_drewN | apply below_drew1) | exact HB.out)⟩

end Go.Proofs.Ytbpobnlkfpjijaa.Pr
