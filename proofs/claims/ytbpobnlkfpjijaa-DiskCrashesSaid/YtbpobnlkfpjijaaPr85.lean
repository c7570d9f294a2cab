-- Laid by a program (wip/pr.sh), out of the translation.
import Derived.Test.YtbpobnlkfpjijaaPr0
import Derived.Test.YtbpobnlkfpjijaaPr84
namespace Go.Proofs.Ytbpobnlkfpjijaa.Pr
open Go.RowKit Go.Proofs.YtbpobnlkfpjijaaW.PrintWords Go.Proofs.YtbpobnlkfpjijaaW.PrintLast Go.Proofs.YtbpobnlkfpjijaaW.PrintMore
attribute [local go_sem] max2_int min2_int max_two min_two max_three min_three max_four min_four   -- for this text's walks alone
set_option linter.unusedVariables false
set_option linter.unusedSimpArgs false

attribute [local go_sem] Go.Proofs.Aid.cell_set_row
/-! ### tallystickref15_Crash: function 25 -/
def tallystickref15_Crash.l0 : Nat → List Int → Int → Int → List (S55) → Int → List (S55) → Option (Int × (List (S55)))
  | 0, _, _, _, _, _, _ => none
  | k + 1, x1, x6, x666000, x666001, x668000, x668001 => if x6 < (x666001.length : Int) then (if (x1.length : Int) > 0 then (if (x1.length : Int) = 0 then (none) else (if 0 ≤ (Int.tmod x6 (x1.length : Int)) then (if (Int.tmod x6 (x1.length : Int)) < (x1.length : Int) then (if 0 ≤ x6 then ((tallystickref15_kept.f k ((rd_T55 x666001 x6).f0) ((rd_T55 x666001 x6).f1) ((rd_T55 x666001 x6).f2) (rd x1 (Int.tmod x6 (x1.length : Int)))).bind fun t670 => (if x668001.length < 2932031007402 then (tallystickref15_Crash.l0 k x1 (wrap64 (x6 + 1)) x666000 x666001 x668000 (x668001 ++ [(⟨(rd_T55 x666001 x6).f0, t670, t670⟩ : S55)])) else (none))) else (none)) else (none)) else (none))) else (if 0 ≤ x6 then ((tallystickref15_kept.f k ((rd_T55 x666001 x6).f0) ((rd_T55 x666001 x6).f1) ((rd_T55 x666001 x6).f2) 0).bind fun t676 => (if x668001.length < 2932031007402 then (tallystickref15_Crash.l0 k x1 (wrap64 (x6 + 1)) x666000 x666001 x668000 (x668001 ++ [(⟨(rd_T55 x666001 x6).f0, t676, t676⟩ : S55)])) else (none))) else (none))) else (some (x668000, x668001))
def tallystickref15_Crash.f (k : Nat) (a0_0 : Int) (l0_1 : List (S55)) (l1 : List Int) : Option (Int × (List (S55))) := tallystickref15_Crash.l0 k l1 0 a0_0 l0_1 a0_0 ([] : List (S55))
theorem tallystickref15_Crash.mono_l : ∀ k, (∀ y0 y1 y2 y3 y4 y5, LeO (tallystickref15_Crash.l0 k y0 y1 y2 y3 y4 y5) (tallystickref15_Crash.l0 (k + 1) y0 y1 y2 y3 y4 y5))
  | 0 => fun _ _ _ _ _ _ r h => by simp [tallystickref15_Crash.l0] at h
  | k + 1 => by
    have ih0 := tallystickref15_Crash.mono_l k
    · intro y0 y1 y2 y3 y4 y5
      unfold tallystickref15_Crash.l0
      repeat' first
      | (with_reducible exact ih0 _ _ _ _ _ _)
      | (with_reducible exact tallystickref15_kept.mono _ _ _ _ _)
      | (with_reducible exact LeO.refl _)
      | (with_reducible exact LeO.none _)
      | (with_reducible refine LeO.ite ?_ ?_)
      | (with_reducible refine LeO.bind ?_ (fun _ => ?_))
      | exact ih0 _ _ _ _ _ _
      | exact tallystickref15_kept.mono _ _ _ _ _
      | exact LeO.none _
      | refine LeO.ite ?_ ?_
      | refine LeO.bind ?_ (fun _ => ?_)
theorem tallystickref15_Crash.mono : ∀ a0 a1 a2 k, LeO (tallystickref15_Crash.f k a0 a1 a2) (tallystickref15_Crash.f (k + 1) a0 a1 a2) := by
  intro a0 a1 a2 k
  have ih0 := tallystickref15_Crash.mono_l k
  unfold tallystickref15_Crash.f
  repeat' first
      | (with_reducible exact ih0 _ _ _ _ _ _)
      | (with_reducible exact tallystickref15_kept.mono _ _ _ _ _)
      | (with_reducible exact LeO.refl _)
      | (with_reducible exact LeO.none _)
      | (with_reducible refine LeO.ite ?_ ?_)
      | (with_reducible refine LeO.bind ?_ (fun _ => ?_))
      | exact ih0 _ _ _ _ _ _
      | exact tallystickref15_kept.mono _ _ _ _ _
      | exact LeO.none _
      | refine LeO.ite ?_ ?_
      | refine LeO.bind ?_ (fun _ => ?_)
def tallystickref15_Crash.T9 : Bool × List (List Nat × List Nat) := (true, [([], []), ([0], [0]), ([], []), ([2], [2]), ([], []), ([3, 4], [3, 4]), ([5], [5]), ([6], [6]), ([], []), ([], []), ([7, 8, 9], [7, 8, 9]), ([10], [10]), ([1, 11], [1, 11]), ([0, 1, 2, 3, 4, 5, 6, 7, 8, 9, 10, 11, 12], []), ([13, 12, 12, 0, 1, 2, 3, 4, 5, 6, 7, 8, 9, 10, 11, 12], [12, 13])])
def tallystickref15_Crash.B9 : List Nat := [0, 1, 0, 4, 0, 28, 60, 124, 0, 0, 1020, 2044, 4095, 8191, 16383]
theorem tallystickref15_Crash.tab9 : rtab .any (opsOf Try.f25 9) = tallystickref15_Crash.T9 := by kernel_rfl
theorem tallystickref15_Crash.bits9 : waitsOk tallystickref15_Crash.T9.2 tallystickref15_Crash.B9 = true := by kernel_rfl
set_option maxHeartbeats 8000000 in
set_option maxRecDepth 100000 in
theorem tallystickref15_Crash.calls (k : Nat) (a0_0 : Int) (A0_1 : Option Addr) (c0_1 : Nat) (l0_1 : List (S55)) (A1 : Option Addr) (c1 : Nat) (l1 : List Int) (r1 : Int) (r2 : List (S55)) (w : World) (hr0_1 : Kd.C k55 w A0_1 l0_1.length l0_1) (hc0_1 : l0_1.length ≤ c0_1) (hr1 : Kd.C (Kd.int .u64) w A1 l1.length l1) (hc1 : l1.length ≤ c1) (h : tallystickref15_Crash.f k a0_0 l0_1 l1 = some (r1, r2)) :
    Calls Try.prog 25 #[.agg #[.int .i64 a0_0, .slice A0_1 l0_1.length c0_1], .slice A1 l1.length c1] w fun e w' => ∃ v1_ : Value, e = .returned (.agg #[.int .i64 r1, v1_]) ∧ Kd.R k55 55 w' w.heap.size (fun _ => True) v1_ r2 ∧ Below w.heap.size w w' := by
  have hu46 := Try.underlying46
  have hu55 := Try.underlying55
  have HR0_1 := Aside0.mk hr0_1
  have HC0_1 := Aside0.mk hc0_1
  clear hr0_1 hc0_1
  have HR1 := Aside0.mk hr1
  have HC1 := Aside0.mk hc1
  clear hr1 hc1
  have HB := Aside0.mk (Below.refl w.heap.size w)
  have H : (tallystickref15_Crash.l0 k l1 0 a0_0 l0_1 a0_0 ([] : List (S55))) = some (r1, r2) := h
  clear h
  have H' := Aside0.mk H
  clear H
  go_enter Try.func25, Try.ntmps25
  go_wp2_with (first | ((with_reducible refine gate_dst (N := 2) rfl ?_); refine box_event ?hg (N := 2) ?hd (cs := #[.int .i64 a0_0, .slice A0_1 l0_1.length c0_1]) (t := 46) ?hr ?_; (case hd => rfl); (case hg => rfl); (case hr => first | (go_simp; done) | (go_simp; rfl)); intro gb665 hg w3 hbox hb; have n0_ := Aside0.mk (below_step (by repeat (first | (with_reducible first | exact HB.out | apply below_alloc | apply pw_below_drewN | apply below_drew1) | exact HB.out)) hb); have n1_ := Aside0.mk (hbox); have n2_ := Aside0.mk ((by rw [hg]; exact (below_size (by repeat (first | (with_reducible first | exact HB.out | apply below_alloc | apply pw_below_drewN | apply below_drew1) | exact HB.out))) : w.heap.size ≤ gb665)); have n3_ := Aside0.mk ((by rw [hg]; exact (below_size (by repeat (first | (with_reducible first | exact HB.out | apply below_alloc | apply pw_below_drewN | apply below_drew1) | exact HB.out))) : w.heap.size ≤ gb665)); clear HB; have HB := n0_; have BK665 := n1_; have GW665 := n2_; have GE665 := n3_; clear n0_ n1_ n2_ n3_; clear hb hbox hg) | ((with_reducible refine gate_dst (N := 4) rfl ?_); refine box_event ?hg (N := 4) ?hd (cs := #[.int .i64 0, .slice none 0 0]) (t := 46) ?hr ?_; (case hd => rfl); (case hg => rfl); (case hr => first | (go_simp; done) | (go_simp; rfl)); intro gb666 hg w4 hbox hb; have n0_ := Aside0.mk (blk_below (g := gb665) (o := .cells #[.int .i64 a0_0, .slice A0_1 l0_1.length c0_1] 46 (0, 0)) (by (with_reducible repeat (first | refine blk_drewN ?_ _ | refine blk_drew ?_ | refine blk_alloc ?_ _)); exact BK665.out) hb); have n1_ := Aside0.mk (below_step (by repeat (first | (with_reducible first | exact HB.out | apply below_alloc | apply pw_below_drewN | apply below_drew1 | refine below_set ?_ GE665.out) | exact HB.out)) hb); have n2_ := Aside0.mk (hbox); have n3_ := Aside0.mk ((by rw [hg]; exact (below_size (by repeat (first | (with_reducible first | exact HB.out | apply below_alloc | apply pw_below_drewN | apply below_drew1 | refine below_set ?_ GE665.out) | exact HB.out))) : w.heap.size ≤ gb666)); have n4_ := Aside0.mk ((by rw [hg]; exact (below_size (by repeat (first | (with_reducible first | exact HB.out | apply below_alloc | apply pw_below_drewN | apply below_drew1 | refine below_set ?_ GE665.out) | exact HB.out))) : w.heap.size ≤ gb666)); have n5_ := Aside0.mk ((by rw [hg]; exact Nat.ne_of_lt (blk_lt (g := gb665) (o := .cells #[.int .i64 a0_0, .slice A0_1 l0_1.length c0_1] 46 (0, 0)) (by (with_reducible repeat (first | refine blk_drewN ?_ _ | refine blk_drew ?_ | refine blk_alloc ?_ _)); exact BK665.out)) : gb665 ≠ gb666)); have n6_ := Aside0.mk ((by rw [hg]; exact Nat.ne_of_gt (blk_lt (g := gb665) (o := .cells #[.int .i64 a0_0, .slice A0_1 l0_1.length c0_1] 46 (0, 0)) (by (with_reducible repeat (first | refine blk_drewN ?_ _ | refine blk_drew ?_ | refine blk_alloc ?_ _)); exact BK665.out)) : gb666 ≠ gb665)); clear BK665; clear HB; have BK665 := n0_; have HB := n1_; have BK666 := n2_; have GW666 := n3_; have GE666 := n4_; have NB665_666 := n5_; have NB666_665 := n6_; clear n0_ n1_ n2_ n3_ n4_ n5_ n6_; clear hb hbox hg; have hnb5 := NB665_666.out; have hnc5 := NB666_665.out; have hcz6_0 : w4.cell? ⟨gb665, 0, none⟩ = some (.int .i64 a0_0) := (blk_cell BK665.out 0).trans rfl; have hcz6_1 : w4.cell? ⟨gb665, 1, none⟩ = some (.slice A0_1 l0_1.length c0_1) := (blk_cell BK665.out 1).trans rfl; have hfz6_0 := blk_frozen BK665.out 0; have hfz6_1 := blk_frozen BK665.out 1) | ((with_reducible refine gate_dst (N := 5) rfl ?_); refine box_event ?hg (N := 5) ?hd (cs := #[.int .i64 0, .slice none 0 0]) (t := 46) ?hr ?_; (case hd => rfl); (case hg => rfl); (case hr => first | (go_simp; done) | (go_simp; rfl)); intro gb667 hg w7 hbox hb; have n0_ := Aside0.mk (blk_below (g := gb665) (o := .cells #[.int .i64 a0_0, .slice A0_1 l0_1.length c0_1] 46 (0, 0)) (by (with_reducible repeat (first | refine blk_drewN ?_ _ | refine blk_drew ?_ | refine blk_alloc ?_ _)); exact BK665.out) hb); have n1_ := Aside0.mk (blk_below (g := gb666) (o := .cells #[.int .i64 0, .slice none 0 0] 46 (0, 0)) (by (with_reducible repeat (first | refine blk_drewN ?_ _ | refine blk_drew ?_ | refine blk_alloc ?_ _)); exact BK666.out) hb); have n2_ := Aside0.mk (below_step (by repeat (first | (with_reducible first | exact HB.out | apply below_alloc | apply pw_below_drewN | apply below_drew1 | refine below_set ?_ GE665.out | refine below_set ?_ GE666.out) | exact HB.out)) hb); have n3_ := Aside0.mk (hbox); have n4_ := Aside0.mk ((by rw [hg]; exact (below_size (by repeat (first | (with_reducible first | exact HB.out | apply below_alloc | apply pw_below_drewN | apply below_drew1 | refine below_set ?_ GE665.out | refine below_set ?_ GE666.out) | exact HB.out))) : w.heap.size ≤ gb667)); have n5_ := Aside0.mk ((by rw [hg]; exact (below_size (by repeat (first | (with_reducible first | exact HB.out | apply below_alloc | apply pw_below_drewN | apply below_drew1 | refine below_set ?_ GE665.out | refine below_set ?_ GE666.out) | exact HB.out))) : w.heap.size ≤ gb667)); have n6_ := Aside0.mk ((by rw [hg]; exact Nat.ne_of_lt (blk_lt (g := gb665) (o := .cells #[.int .i64 a0_0, .slice A0_1 l0_1.length c0_1] 46 (0, 0)) (by (with_reducible repeat (first | refine blk_drewN ?_ _ | refine blk_drew ?_ | refine blk_alloc ?_ _)); exact BK665.out)) : gb665 ≠ gb667)); have n7_ := Aside0.mk ((by rw [hg]; exact Nat.ne_of_gt (blk_lt (g := gb665) (o := .cells #[.int .i64 a0_0, .slice A0_1 l0_1.length c0_1] 46 (0, 0)) (by (with_reducible repeat (first | refine blk_drewN ?_ _ | refine blk_drew ?_ | refine blk_alloc ?_ _)); exact BK665.out)) : gb667 ≠ gb665)); have n8_ := Aside0.mk ((by rw [hg]; exact Nat.ne_of_lt (blk_lt (g := gb666) (o := .cells #[.int .i64 0, .slice none 0 0] 46 (0, 0)) (by (with_reducible repeat (first | refine blk_drewN ?_ _ | refine blk_drew ?_ | refine blk_alloc ?_ _)); exact BK666.out)) : gb666 ≠ gb667)); have n9_ := Aside0.mk ((by rw [hg]; exact Nat.ne_of_gt (blk_lt (g := gb666) (o := .cells #[.int .i64 0, .slice none 0 0] 46 (0, 0)) (by (with_reducible repeat (first | refine blk_drewN ?_ _ | refine blk_drew ?_ | refine blk_alloc ?_ _)); exact BK666.out)) : gb667 ≠ gb666)); clear BK665; clear BK666; clear HB; have BK665 := n0_; have BK666 := n1_; have HB := n2_; have BK667 := n3_; have GW667 := n4_; have GE667 := n5_; have NB665_667 := n6_; have NB667_665 := n7_; have NB666_667 := n8_; have NB667_666 := n9_; clear n0_ n1_ n2_ n3_ n4_ n5_ n6_ n7_ n8_ n9_; clear hb hbox hg; have hnb8 := NB667_665.out; have hnc8 := NB665_667.out; have hnb9 := NB667_666.out; have hnc9 := NB666_667.out; have hcz10_0 : w7.cell? ⟨gb667, 0, none⟩ = some (.int .i64 0) := (blk_cell BK667.out 0).trans rfl; have hcz10_1 : w7.cell? ⟨gb667, 1, none⟩ = some (.slice none 0 0) := (blk_cell BK667.out 1).trans rfl; have hfz10_0 := blk_frozen BK667.out 0; have hfz10_1 := blk_frozen BK667.out 1))
  go_loopg [6] k (fun kq v6 w' => ∃ (x6_1 : Int) (x668001_1 : List (S55)) (u668001 : Value), v6 = .int .i64 x6_1 ∧ Aside0 (tallystickref15_Crash.l0 kq l1 x6_1 a0_0 l0_1 a0_0 x668001_1 = some (r1, r2)) ∧ Aside0 (kq ≤ k) ∧ Aside0 (Kd.R k55 55 w' w.heap.size (fun _ => True) u668001 x668001_1) ∧ Aside0 (w'.heap[gb665]? = some (.cells #[.int .i64 a0_0, (.slice A0_1 l0_1.length c0_1)] 46 (0, 0))) ∧ Aside0 (w'.heap[gb666]? = some (.cells #[.int .i64 0, (.slice none 0 0)] 46 (0, 0))) ∧ Aside0 (w'.heap[gb667]? = some (.cells #[.int .i64 a0_0, u668001] 46 (0, 0))) ∧ Aside0 (Below w.heap.size w w'))
  case atStart => exact ⟨(0), (([] : List (S55))), (.slice none 0 0), (by first | rfl | (simp; done) | (simp [*]; done)), H', ⟨Nat.le_refl _⟩, ⟨by first | exact Kd.R_nil _ _ _ _ _ | exact Kd.N_nil _ _ _ _ _ | exact Kd.V_nil _ _ _ _ _ | exact Kd.Q_nil _ _ _ _ _ | exact Kd.S_nil _ _ _ _ _⟩, ⟨by (with_reducible repeat (first | refine blk_drewN ?_ _ | refine blk_drew ?_ | refine blk_alloc ?_ _)); refine blk_far ?_ NB665_667.out _; (with_reducible repeat (first | refine blk_drewN ?_ _ | refine blk_drew ?_ | refine blk_alloc ?_ _)); refine blk_far ?_ NB665_667.out _; (with_reducible repeat (first | refine blk_drewN ?_ _ | refine blk_drew ?_ | refine blk_alloc ?_ _)); exact BK665.out⟩, ⟨by (with_reducible repeat (first | refine blk_drewN ?_ _ | refine blk_drew ?_ | refine blk_alloc ?_ _)); refine blk_far ?_ NB666_667.out _; (with_reducible repeat (first | refine blk_drewN ?_ _ | refine blk_drew ?_ | refine blk_alloc ?_ _)); refine blk_far ?_ NB666_667.out _; (with_reducible repeat (first | refine blk_drewN ?_ _ | refine blk_drew ?_ | refine blk_alloc ?_ _)); exact BK666.out⟩, ⟨by (with_reducible repeat (first | refine blk_drewN ?_ _ | refine blk_drew ?_ | refine blk_alloc ?_ _)); refine blk_put (cs := #[.int .i64 a0_0, .slice none 0 0]) ?_ 1 _ rfl; (with_reducible repeat (first | refine blk_drewN ?_ _ | refine blk_drew ?_ | refine blk_alloc ?_ _)); refine blk_put (cs := #[.int .i64 0, .slice none 0 0]) ?_ 0 _ rfl; (with_reducible repeat (first | refine blk_drewN ?_ _ | refine blk_drew ?_ | refine blk_alloc ?_ _)); exact BK667.out⟩, ⟨by repeat (first | (with_reducible first | exact HB.out | apply below_alloc | apply pw_below_drewN | apply below_drew1 | refine below_set ?_ GE665.out | refine below_set ?_ GE666.out | refine below_set ?_ GE667.out) | exact HB.out)⟩⟩
  case round =>
    clear H'
    try clear c1
    try clear c2
    try clear p2
    try clear c5
    try clear c8
    try clear c9
    try clear hcz10_0
    try clear hcz10_1
    try clear hcz6_0
    try clear hcz6_1
    try clear hfz10_0
    try clear hfz10_1
    try clear hfz6_0
    try clear hfz6_1
    obtain ⟨x6_1, x668001_1, u668001, rfl, HA, HK1, HO_668001, BK665, BK666, BK667, HB⟩ := hrel
    cases gk with
    | zero => exact absurd HA.out (by simp [tallystickref15_Crash.l0])
    | succ k1 =>
      have H := HA.out
      clear HA
      simp only [tallystickref15_Crash.l0] at H
      by_cases c11 : x6_1 < (l0_1.length : Int)
      · rw [if_pos c11] at H
        have c11b0 : decide (x6_1 < (l0_1.length : Int)) = true := decide_eq_true c11
        clear c11
        by_cases c12 : (l1.length : Int) > 0
        · rw [if_pos c12] at H
          have c12b0 : decide (0 < (l1.length : Int)) = true := decide_eq_true c12
          have c12b1 : decide (0 < l1.length) = true := decide_eq_true (by omega)
          clear c12
          by_cases c13 : (l1.length : Int) = 0
          · rw [if_pos c13] at H
            exact absurd H (by simp)
          · rw [if_neg c13] at H
            have c13b0 : ((l1.length : Int) == 0) = false := beq_eq_false_iff_ne.mpr c13
            have c13b1 : ((l1.length : Int) != 0) = true := bne_iff_ne.mpr c13
            have c13b2 : ¬ (l1 = []) := fun h_ => c13 (by rw [h_]; rfl)
            obtain ⟨ji14, hji14⟩ : ∃ j_ : Int, (Int.tmod x6_1 (l1.length : Int)) = j_ := ⟨_, rfl⟩
            replace H : (if 0 ≤ (ji14) then (if (ji14) < (l1.length : Int) then (if 0 ≤ x6_1 then ((tallystickref15_kept.f k1 ((rd_T55 l0_1 x6_1).f0) ((rd_T55 l0_1 x6_1).f1) ((rd_T55 l0_1 x6_1).f2) (rd l1 (ji14))).bind fun t670 => (if x668001_1.length < 2932031007402 then (tallystickref15_Crash.l0 k1 l1 (wrap64 (x6_1 + 1)) a0_0 l0_1 a0_0 (x668001_1 ++ [(⟨(rd_T55 l0_1 x6_1).f0, t670, t670⟩ : S55)])) else (none))) else (none)) else (none)) else (none)) = some (r1, r2) := by first | (rw [hji14] at H; exact H) | (simp only [hji14] at H ⊢; exact H)
            by_cases c15 : 0 ≤ (ji14)
            · rw [if_pos c15] at H
              have c15b0 : decide (0 ≤ (ji14)) = true := decide_eq_true c15
              clear c15
              by_cases c16 : (ji14) < (l1.length : Int)
              · rw [if_pos c16] at H
                have c16b0 : decide ((ji14) < (l1.length : Int)) = true := decide_eq_true c16
                clear c16
                by_cases c17 : 0 ≤ x6_1
                · rw [if_pos c17] at H
                  have c17b0 : decide (0 ≤ x6_1) = true := decide_eq_true c17
                  clear c17
                  replace H := Option.bind_eq_some_iff.mp H
                  obtain ⟨t670, A180, H⟩ := H
                  replace H : (if x668001_1.length < 2932031007402 then (tallystickref15_Crash.l0 k1 l1 (wrap64 (x6_1 + 1)) a0_0 l0_1 a0_0 (x668001_1 ++ [(⟨(rd_T55 l0_1 x6_1).f0, t670, t670⟩ : S55)])) else (none)) = some (r1, r2) := H
                  have A18 := Aside0.mk A180
                  clear A180
                  by_cases c19 : x668001_1.length < 2932031007402
                  · rw [if_pos c19] at H
                    have LMc19 := Aside0.mk c19
                    clear c19
                    obtain ⟨y672, hy672⟩ : ∃ y_ : List (S55), y_ = (x668001_1 ++ [(⟨(rd_T55 l0_1 x6_1).f0, t670, t670⟩ : S55)]) := ⟨_, rfl⟩
                    replace H : (tallystickref15_Crash.l0 k1 l1 (wrap64 (x6_1 + 1)) a0_0 l0_1 a0_0 y672) = some (r1, r2) := by first | (rw [hy672]; with_reducible exact H) | (have H2_ := (Option.bind_some _ _).symm.trans H; rw [hy672]; with_reducible exact H2_) | (have H2_ := (Option.bind_some _ _).symm.trans H; with_reducible exact H2_) | with_reducible exact H | (rw [hy672]; exact H) | exact H
                    have Ny672 := Aside0.mk hy672
                    clear hy672
                    have H' := Aside0.mk H
                    clear H
                    have hnb20 := NB665_666.out
                    have hnc20 := NB666_665.out
                    have hnb21 := NB665_667.out
                    have hnc21 := NB667_665.out
                    have hcz22_0 : wr.cell? ⟨gb665, 0, none⟩ = some (.int .i64 a0_0) := (blk_cell BK665.out 0).trans rfl
                    have hcz22_1 : wr.cell? ⟨gb665, 1, none⟩ = some (.slice A0_1 l0_1.length c0_1) := (blk_cell BK665.out 1).trans rfl
                    have hfz22_0 := blk_frozen BK665.out 0
                    have hfz22_1 := blk_frozen BK665.out 1
                    have p668 : 0 ≤ ((ji14) : Int) := of_decide_eq_true (by first | (with_reducible assumption) | assumption)
                    have q668 : (ji14) < (l1.length : Int) := of_decide_eq_true (by first | (with_reducible assumption) | assumption)
                    obtain ⟨ad668, e668, hx668_0⟩ := Kd.at_int HR1.out (ji14) p668 q668
                    cases e668
                    replace hx668_0 := (HB.out.cell (World.block_lt_of_cell? w _ hx668_0)).trans hx668_0
                    replace p668 := eq_true p668
                    replace q668 := eq_true q668
                    have p669 : 0 ≤ (x6_1 : Int) := of_decide_eq_true (by first | (with_reducible assumption) | assumption)
                    have q669 : x6_1 < (l0_1.length : Int) := of_decide_eq_true (by first | (with_reducible assumption) | assumption)
                    obtain ⟨ad669, e669, hx669_0, hx669_1, hx669_2⟩ := at_T55 HR0_1.out x6_1 p669 q669
                    cases e669
                    replace hx669_0 := (HB.out.cell (World.block_lt_of_cell? w _ hx669_0)).trans hx669_0
                    replace hx669_1 := (HB.out.cell (World.block_lt_of_cell? w _ hx669_1)).trans hx669_1
                    replace hx669_2 := (HB.out.cell (World.block_lt_of_cell? w _ hx669_2)).trans hx669_2
                    replace p669 := eq_true p669
                    replace q669 := eq_true q669
                    try go_wp2_with (first | ((with_reducible refine gate_callee (f := 46) rfl ?_); refine goesL_ (some 35) rfl rfl Try.func46 (by kernel_rfl) rfl #[.agg #[.string ((rd_T55 l0_1 x6_1).f0), .string ((rd_T55 l0_1 x6_1).f1), .string ((rd_T55 l0_1 x6_1).f2)], .int .u64 (rd l1 (ji14))] rfl (by (try simp only [List.map_toArray, List.map_cons, List.map_nil]); first | done | (simp only [hji14]; rfl) | rfl | (simp only [List.length_drop, List.length_take]; rfl)) ?_; (with_reducible refine (tallystickref15_kept.calls k1 ((rd_T55 l0_1 x6_1).f0) ((rd_T55 l0_1 x6_1).f1) ((rd_T55 l0_1 x6_1).f2) (rd l1 (ji14)) t670 _ A18.out).mono ?_); rintro e w23 ⟨rfl, hb⟩; refine ⟨_, rfl, ?_⟩; have n0_ := Aside0.mk (Kd.R_below (by (with_reducible repeat (first | apply Kd.R_alloc | apply Kd.R_drewN | apply Kd.R_drew)); exact HO_668001.out) hb); have n1_ := Aside0.mk (blk_below (g := gb665) (o := .cells #[.int .i64 a0_0, .slice (some ad669) l0_1.length c0_1] 46 (0, 0)) (by (with_reducible repeat (first | refine blk_drewN ?_ _ | refine blk_drew ?_ | refine blk_alloc ?_ _)); exact BK665.out) hb); have n2_ := Aside0.mk (blk_below (g := gb666) (o := .cells #[.int .i64 0, .slice none 0 0] 46 (0, 0)) (by (with_reducible repeat (first | refine blk_drewN ?_ _ | refine blk_drew ?_ | refine blk_alloc ?_ _)); exact BK666.out) hb); have n3_ := Aside0.mk (blk_below (g := gb667) (o := .cells #[.int .i64 a0_0, u668001] 46 (0, 0)) (by (with_reducible repeat (first | refine blk_drewN ?_ _ | refine blk_drew ?_ | refine blk_alloc ?_ _)); exact BK667.out) hb); have n4_ := Aside0.mk (below_step (by repeat (first | (with_reducible first | exact HB.out | apply below_alloc | apply pw_below_drewN | apply below_drew1 | refine below_set ?_ GE665.out | refine below_set ?_ GE666.out | refine below_set ?_ GE667.out) | exact HB.out)) hb); clear HO_668001; clear BK665; clear BK666; clear BK667; clear HB; have HO_668001 := n0_; have BK665 := n1_; have BK666 := n2_; have BK667 := n3_; have HB := n4_; clear n0_ n1_ n2_ n3_ n4_; (try clear hb); (try clear hb2); (try clear hk); (try clear hi)))
                    have n0_ := Aside0.mk (Kd.R_drew HO_668001.out)
                    have n1_ := Aside0.mk (blk_drew BK665.out)
                    have n2_ := Aside0.mk (blk_drew BK666.out)
                    have n3_ := Aside0.mk (blk_drew BK667.out)
                    have n4_ := Aside0.mk (below_drew1 HB.out)
                    clear HO_668001
                    clear BK665
                    clear BK666
                    clear BK667
                    clear HB
                    have HO_668001 := n0_
                    have BK665 := n1_
                    have BK666 := n2_
                    have BK667 := n3_
                    have HB := n4_
                    clear n0_ n1_ n2_ n3_ n4_
                    have p671 : 0 ≤ (x6_1 : Int) := of_decide_eq_true (by first | (with_reducible assumption) | assumption)
                    have q671 : x6_1 < (l0_1.length : Int) := of_decide_eq_true (by first | (with_reducible assumption) | assumption)
                    obtain ⟨ad671, e671, hx671_0, hx671_1, hx671_2⟩ := at_T55 HR0_1.out x6_1 p671 q671
                    have hw671_2 := hx671_2
                    have hw671_1 := hx671_1
                    have hw671_0 := hx671_0
                    obtain rfl : ad669 = ad671 := (by injection e671)
                    replace hx671_0 := (HB.out.cell (World.block_lt_of_cell? w _ hx671_0)).trans hx671_0
                    replace hx671_1 := (HB.out.cell (World.block_lt_of_cell? w _ hx671_1)).trans hx671_1
                    replace hx671_2 := (HB.out.cell (World.block_lt_of_cell? w _ hx671_2)).trans hx671_2
                    replace p671 := eq_true p671
                    replace q671 := eq_true q671
                    refine start_ (n := 15) (S := fun w' => w'.cell? ⟨gb667, 0, none⟩ = some (.int .i64 a0_0) ∧ w'.cell? ⟨gb667, 1, none⟩ = some (u668001) ∧ w'.cell? ⟨gb665, 0, none⟩ = some (.int .i64 a0_0) ∧ w'.cell? ⟨gb665, 1, none⟩ = some (.slice (some ad669) l0_1.length c0_1) ∧ w'.cell? (ad669.add ((x6_1).toNat * 3)) = some (.string ((rd_T55 l0_1 x6_1).f0)) ∧ w'.cell? ⟨(ad669.add ((x6_1).toNat * 3)).block, (ad669.add ((x6_1).toNat * 3)).off + 1, none⟩ = some (.string ((rd_T55 l0_1 x6_1).f1)) ∧ w'.cell? ⟨(ad669.add ((x6_1).toNat * 3)).block, (ad669.add ((x6_1).toNat * 3)).off + 2, none⟩ = some (.string ((rd_T55 l0_1 x6_1).f2))) (ds := [14]) #[false, false, false, false, false, false, false, false, false, false, false, false, false, false, false] (by kernel_rfl) rfl rfl ⟨(blk_cell BK667.out 0).trans rfl, (blk_cell BK667.out 1).trans rfl, (blk_cell BK665.out 0).trans rfl, (blk_cell BK665.out 1).trans rfl, ((HB.out.cell (World.block_lt_of_cell? w _ hw671_0)).trans hw671_0), ((HB.out.cell (World.block_lt_of_cell? w _ hw671_1)).trans hw671_1), ((HB.out.cell (World.block_lt_of_cell? w _ hw671_2)).trans hw671_2)⟩ (fun hHeld => ?_); refine with_tabW tallystickref15_Crash.tab9 tallystickref15_Crash.bits9 (fun HT_ HW_ => ?_)
                    generalize w23.drew = w24 at HO_668001 BK665 BK666 BK667 HB hx671_0 hx671_1 hx671_2 hHeld ⊢
                    refine pure_ (i := 0) (N := some 36) (v := ?_) (a' := ?_) #[true, false, false, false, false, false, false, false, false, false, false, false, false, false, false] rfl rfl (any_of HT_.out (by kernel_rfl)) (fun _ _ _ h => h) (Or.inl ⟨by rfl, ?_⟩) ?_ ?_
                    rotate_left
                    · intro w'
                      go_simp
                      with_reducible rfl
                    rotate_left
                    · simp only [Act.put, List.setIfInBounds_toArray, List.set_cons_zero, List.set_cons_succ, i64_w, i32_w]
                      rfl
                    refine pure_ (i := 2) (N := some 38) (v := ?_) (a' := ?_) #[true, false, true, false, false, false, false, false, false, false, false, false, false, false, false] rfl rfl (any_of HT_.out (by kernel_rfl)) (fun _ _ _ h => h) (Or.inl ⟨by rfl, ?_⟩) ?_ ?_
                    rotate_left
                    · intro w'
                      go_simp
                      with_reducible rfl
                    rotate_left
                    · simp only [Act.put, List.setIfInBounds_toArray, List.set_cons_zero, List.set_cons_succ, i64_w, i32_w]
                      rfl
                    refine pure_ (i := 4) (N := some 40) (v := ?_) (a' := ?_) #[true, false, true, false, true, false, false, false, false, false, false, false, false, false, false] rfl rfl (any_of HT_.out (by kernel_rfl)) (fun _ _ _ h => h) (Or.inl ⟨by rfl, ?_⟩) ?_ ?_
                    rotate_left
                    · intro w'
                      go_simp
                      with_reducible rfl
                    rotate_left
                    · simp only [Act.put, List.setIfInBounds_toArray, List.set_cons_zero, List.set_cons_succ, i64_w, i32_w]
                      rfl
                    refine pure_ (i := 8) (N := some 44) (v := ?_) (a' := ?_) #[true, false, true, false, true, false, false, false, true, false, false, false, false, false, false] rfl rfl (any_of HT_.out (by kernel_rfl)) (fun _ _ _ h => h) (Or.inl ⟨by rfl, ?_⟩) ?_ ?_
                    rotate_left
                    · intro w'
                      go_simp
                      with_reducible rfl
                    rotate_left
                    · simp only [Act.put, List.setIfInBounds_toArray, List.set_cons_zero, List.set_cons_succ, i64_w, i32_w]
                      rfl
                    refine pure_ (i := 9) (N := some 45) (v := ?_) (a' := ?_) #[true, false, true, false, true, false, false, false, true, true, false, false, false, false, false] rfl rfl (any_of HT_.out (by kernel_rfl)) (fun _ _ _ h => h) (Or.inl ⟨by rfl, ?_⟩) ?_ ?_
                    rotate_left
                    · intro w'
                      go_simp
                      with_reducible rfl
                    rotate_left
                    · simp only [Act.put, List.setIfInBounds_toArray, List.set_cons_zero, List.set_cons_succ, i64_w, i32_w]
                      rfl
                    refine take_ (i := 1) (N := some 37) (v := ?_) (a' := ?_) #[true, true, true, false, true, false, false, false, true, true, false, false, false, false, false] rfl rfl (take_ofW HT_.out HW_.out (by kernel_rfl)) (fun _ _ _ h => h) (Or.inl ⟨by rfl, ?_⟩) hHeld ?_ ?_
                    rotate_left
                    · rintro w' ⟨s0, s1, s2, s3, s4, s5, s6⟩
                      go_simp
                      with_reducible rfl
                    rotate_left
                    · simp only [Act.put, List.setIfInBounds_toArray, List.set_cons_zero, List.set_cons_succ, i64_w, i32_w]
                      rfl
                    refine take_ (i := 3) (N := some 39) (v := ?_) (a' := ?_) #[true, true, true, true, true, false, false, false, true, true, false, false, false, false, false] rfl rfl (take_ofW HT_.out HW_.out (by kernel_rfl)) (fun _ _ _ h => h) (Or.inl ⟨by rfl, ?_⟩) hHeld ?_ ?_
                    rotate_left
                    · rintro w' ⟨s0, s1, s2, s3, s4, s5, s6⟩
                      go_simp
                      with_reducible rfl
                    rotate_left
                    · simp only [Act.put, List.setIfInBounds_toArray, List.set_cons_zero, List.set_cons_succ, i64_w, i32_w]
                      rfl
                    refine pure_ (i := 5) (N := some 41) (v := ?_) (a' := ?_) #[true, true, true, true, true, true, false, false, true, true, false, false, false, false, false] rfl rfl (any_of HT_.out (by kernel_rfl)) (fun _ _ _ h => h) (Or.inl ⟨by rfl, ?_⟩) ?_ ?_
                    rotate_left
                    · intro w'
                      go_simp
                      with_reducible rfl
                    rotate_left
                    · simp only [Act.put, List.setIfInBounds_toArray, List.set_cons_zero, List.set_cons_succ, i64_w, i32_w]
                      rfl
                    refine pure_ (i := 6) (N := some 42) (v := ?_) (a' := ?_) #[true, true, true, true, true, true, true, false, true, true, false, false, false, false, false] rfl rfl (any_of HT_.out (by kernel_rfl)) (fun _ _ _ h => h) (Or.inl ⟨by rfl, ?_⟩) ?_ ?_
                    rotate_left
                    · intro w'
                      go_simp
                      with_reducible rfl
                    rotate_left
                    · simp only [Act.put, List.setIfInBounds_toArray, List.set_cons_zero, List.set_cons_succ, i64_w, i32_w]
                      rfl
                    refine take_ (i := 7) (N := some 43) (v := ?_) (a' := ?_) #[true, true, true, true, true, true, true, true, true, true, false, false, false, false, false] rfl rfl (take_ofW HT_.out HW_.out (by kernel_rfl)) (fun _ _ _ h => h) (Or.inl ⟨by rfl, ?_⟩) hHeld ?_ ?_
                    rotate_left
                    · rintro w' ⟨s0, s1, s2, s3, s4, s5, s6⟩
                      go_simp
                      with_reducible rfl
                    rotate_left
                    · simp only [Act.put, List.setIfInBounds_toArray, List.set_cons_zero, List.set_cons_succ, i64_w, i32_w]
                      rfl
                    refine pure_ (i := 10) (N := some 46) (v := ?_) (a' := ?_) #[true, true, true, true, true, true, true, true, true, true, true, false, false, false, false] rfl rfl (any_of HT_.out (by kernel_rfl)) (fun _ _ _ h => h) (Or.inl ⟨by rfl, ?_⟩) ?_ ?_
                    rotate_left
                    · intro w'
                      go_simp
                      with_reducible rfl
                    rotate_left
                    · simp only [Act.put, List.setIfInBounds_toArray, List.set_cons_zero, List.set_cons_succ, i64_w, i32_w]
                      rfl
                    refine one_ (i := 11) (N := some 47) #[true, true, true, true, true, true, true, true, true, true, true, true, false, false, false] rfl rfl (one_of HT_.out (by kernel_rfl)) (by decide) (fun K hK => ?_)
                    refine value_ (w1 := ?_) (v := ?_) (by rfl) rfl ?_ ?_
                    rotate_left 2
                    · go_simp
                      constructor
                      · rfl
                      · rfl
                    refine hK.out _ _ ⟨(blk_cell (blk_alloc BK667.out _) 0).trans rfl, (blk_cell (blk_alloc BK667.out _) 1).trans rfl, (blk_cell (blk_alloc BK665.out _) 0).trans rfl, (blk_cell (blk_alloc BK665.out _) 1).trans rfl, (World.cell?_alloc_lt _ _ _ (World.block_lt_of_cell? _ _ (((HB.out.cell (World.block_lt_of_cell? w _ hw671_0)).trans hw671_0)))).trans (((HB.out.cell (World.block_lt_of_cell? w _ hw671_0)).trans hw671_0)), (World.cell?_alloc_lt _ _ _ (World.block_lt_of_cell? _ _ (((HB.out.cell (World.block_lt_of_cell? w _ hw671_1)).trans hw671_1)))).trans (((HB.out.cell (World.block_lt_of_cell? w _ hw671_1)).trans hw671_1)), (World.cell?_alloc_lt _ _ _ (World.block_lt_of_cell? _ _ (((HB.out.cell (World.block_lt_of_cell? w _ hw671_2)).trans hw671_2)))).trans (((HB.out.cell (World.block_lt_of_cell? w _ hw671_2)).trans hw671_2))⟩ (fun hHeld => ?_)
                    clear hK K
                    refine norm_ (a' := ?_) ?_ ?_
                    rotate_left
                    · show Act.put _ (some 47) _ = _
                      simp only [Act.put, List.setIfInBounds_toArray, List.set_cons_zero, List.set_cons_succ, i64_w, i32_w]
                      rfl
                    refine one_ (i := 12) (N := some 48) #[true, true, true, true, true, true, true, true, true, true, true, true, true, false, false] rfl rfl (one_of HT_.out (by kernel_rfl)) (by decide) (fun K hK => ?_)
                    refine Kd.R_append_step k55 (w0 := w) w.heap.size (by rfl) (.tmp 37) (.tmp 47) 44 55 (.agg #[(.string ⟨#[]⟩), (.string ⟨#[]⟩), (.string ⟨#[]⟩)]) 48 rfl Try.underlying44 info55 rfl (by decide) (by omega) u668001 x668001_1 (⟨(rd_T55 l0_1 x6_1).f0, t670, t670⟩ : S55) [.string ((rd_T55 l0_1 x6_1).f0), .string t670, .string t670] (fun _ => True) (fun _ => False) rfl rfl ?aP (fun _ hk => hk.elim) ?aF ?aO ?aB ?aS ?aL ?_
                    (case aP => exact k55_mkM _ _ _ (⟨(rd_T55 l0_1 x6_1).f0, t670, t670⟩ : S55))
                    (case aB => exact (by repeat (first | (with_reducible first | exact HB.out | apply below_alloc | apply pw_below_drewN | apply below_drew1 | refine below_set ?_ GE665.out | refine below_set ?_ GE666.out | refine below_set ?_ GE667.out) | exact HB.out)))
                    (case aF => exact (fun _ _ => trivial))
                    (case aO => exact (by (with_reducible repeat (first | apply Kd.R_alloc | apply Kd.R_drewN | apply Kd.R_drew)); exact HO_668001.out))
                    (case aS => exact (below_size (by repeat (first | (with_reducible first | exact HB.out | apply below_alloc | apply pw_below_drewN | apply below_drew1 | refine below_set ?_ GE665.out | refine below_set ?_ GE666.out | refine below_set ?_ GE667.out) | exact HB.out))))
                    (case aL => have := LMc19.out; omega)
                    intro v673 w25 ho hb hg hat
                    rw [← Ny672.out] at ho
                    have n0_ := Aside0.mk (blk_grown (g := gb665) (o := .cells #[.int .i64 a0_0, .slice (some ad669) l0_1.length c0_1] 46 (0, 0)) (by (with_reducible repeat (first | refine blk_drewN ?_ _ | refine blk_drew ?_ | refine blk_alloc ?_ _)); exact BK665.out) hg (Kd.R_ne HO_668001.out BK665.out (by decide)))
                    have n1_ := Aside0.mk (blk_grown (g := gb666) (o := .cells #[.int .i64 0, .slice none 0 0] 46 (0, 0)) (by (with_reducible repeat (first | refine blk_drewN ?_ _ | refine blk_drew ?_ | refine blk_alloc ?_ _)); exact BK666.out) hg (Kd.R_ne HO_668001.out BK666.out (by decide)))
                    have n2_ := Aside0.mk (blk_grown (g := gb667) (o := .cells #[.int .i64 a0_0, u668001] 46 (0, 0)) (by (with_reducible repeat (first | refine blk_drewN ?_ _ | refine blk_drew ?_ | refine blk_alloc ?_ _)); exact BK667.out) hg (Kd.R_ne HO_668001.out BK667.out (by decide)))
                    have n3_ := Aside0.mk (hb)
                    have n4_ := Aside0.mk (ho)
                    clear BK665
                    clear BK666
                    clear BK667
                    clear HB
                    clear HO_668001
                    have BK665 := n0_
                    have BK666 := n1_
                    have BK667 := n2_
                    have HB := n3_
                    have HO674 := n4_
                    clear n0_ n1_ n2_ n3_ n4_
                    clear ho hb hg hat
                    obtain ⟨Ao26, co26, eo26⟩ := Kd.R_slice HO674.out
                    (first | subst eo26 | (injection eo26 with f1_ f2_ f3_; have f4_ := f1_.symm; have f5_ := f3_.symm; clear f1_ f2_ f3_; subst f4_; subst f5_))
                    refine hK.out _ _ ⟨(blk_cell BK667.out 0).trans rfl, (blk_cell BK667.out 1).trans rfl, (blk_cell BK665.out 0).trans rfl, (blk_cell BK665.out 1).trans rfl, ((HB.out.cell (World.block_lt_of_cell? w _ hw671_0)).trans hw671_0), ((HB.out.cell (World.block_lt_of_cell? w _ hw671_1)).trans hw671_1), ((HB.out.cell (World.block_lt_of_cell? w _ hw671_2)).trans hw671_2)⟩ (fun hHeld => ?_)
                    clear hK K
                    refine norm_ (a' := ?_) ?_ ?_
                    rotate_left
                    · show Act.put _ (some 48) _ = _
                      simp only [Act.put, List.setIfInBounds_toArray, List.set_cons_zero, List.set_cons_succ, i64_w, i32_w]
                      rfl
                    refine pure_ (i := 13) (N := some 49) (v := ?_) (a' := ?_) #[true, true, true, true, true, true, true, true, true, true, true, true, true, true, false] rfl rfl (any_of HT_.out (by kernel_rfl)) (fun _ _ _ h => h) (Or.inl ⟨by rfl, ?_⟩) ?_ ?_
                    rotate_left
                    · intro w'
                      go_simp
                      with_reducible rfl
                    rotate_left
                    · simp only [Act.put, List.setIfInBounds_toArray, List.set_cons_zero, List.set_cons_succ, i64_w, i32_w]
                      rfl
                    refine last_ (i := 14) (N := none) #[true, true, true, true, true, true, true, true, true, true, true, true, true, true, true] rfl rfl (one_of HT_.out (by kernel_rfl)) (by decide) (fun K hK => ?_)
                    have hs27 : w25.cell? ⟨gb667, 1, none⟩ = some (u668001) := (blk_cell BK667.out 1).trans rfl
                    have hfs27 := blk_frozen BK667.out 1
                    have hns27_0 := NB665_667.out
                    have hns27_1 := NB666_667.out
                    have hms27_0 := NB667_665.out
                    have hms27_1 := NB667_666.out
                    refine skip_ (w1 := ?_) (by rfl) rfl ?_ ?_
                    rotate_left
                    · go_simp
                      rfl
                    refine hK.out _ _ ?_
                    clear hK K
                    refine done_ (done_of HT_.out (by kernel_rfl)) ?_
                    try go_wp2
                    go_roundg k1
                    case measure => have := HK1.out; omega
                    case rel => exact ⟨(wrap64 (x6_1 + 1)), (y672), (.slice Ao26 y672.length co26), (by first | rfl | (simp; done) | (simp [*]; done)), H', ⟨by have := HK1.out; omega⟩, ⟨by (with_reducible repeat (first | apply Kd.R_alloc | apply Kd.R_drewN | apply Kd.R_drew)); exact Kd.R_mono (Kd.R_far (p := ⟨gb667, 1, none⟩) (Kd.R_types HO674.out BK667.out (by decide)) (fun _ hk => hk.2) (.slice Ao26 y672.length co26)) (fun _ hk => trivial)⟩, ⟨by (with_reducible repeat (first | refine blk_drewN ?_ _ | refine blk_drew ?_ | refine blk_alloc ?_ _)); refine blk_far ?_ NB665_667.out _; (with_reducible repeat (first | refine blk_drewN ?_ _ | refine blk_drew ?_ | refine blk_alloc ?_ _)); exact BK665.out⟩, ⟨by (with_reducible repeat (first | refine blk_drewN ?_ _ | refine blk_drew ?_ | refine blk_alloc ?_ _)); refine blk_far ?_ NB666_667.out _; (with_reducible repeat (first | refine blk_drewN ?_ _ | refine blk_drew ?_ | refine blk_alloc ?_ _)); exact BK666.out⟩, ⟨by (with_reducible repeat (first | refine blk_drewN ?_ _ | refine blk_drew ?_ | refine blk_alloc ?_ _)); refine blk_put (cs := #[.int .i64 a0_0, u668001]) ?_ 1 _ rfl; (with_reducible repeat (first | refine blk_drewN ?_ _ | refine blk_drew ?_ | refine blk_alloc ?_ _)); exact BK667.out⟩, ⟨by repeat (first | (with_reducible first | exact HB.out | apply below_alloc | apply pw_below_drewN | apply below_drew1 | refine below_set ?_ GE665.out | refine below_set ?_ GE666.out | refine below_set ?_ GE667.out) | exact HB.out)⟩⟩
                  · rw [if_neg c19] at H
                    exact absurd H (by simp)
                · rw [if_neg c17] at H
                  exact absurd H (by simp)
              · rw [if_neg c16] at H
                exact absurd H (by simp)
            · rw [if_neg c15] at H
              exact absurd H (by simp)
        · rw [if_neg c12] at H
          have c12b0 : decide (0 < (l1.length : Int)) = false := decide_eq_false c12
          have c12b1 : decide (0 < l1.length) = false := decide_eq_false (by omega)
          clear c12
          by_cases c28 : 0 ≤ x6_1
          · rw [if_pos c28] at H
            have c28b0 : decide (0 ≤ x6_1) = true := decide_eq_true c28
            clear c28
            replace H := Option.bind_eq_some_iff.mp H
            obtain ⟨t676, A290, H⟩ := H
            replace H : (if x668001_1.length < 2932031007402 then (tallystickref15_Crash.l0 k1 l1 (wrap64 (x6_1 + 1)) a0_0 l0_1 a0_0 (x668001_1 ++ [(⟨(rd_T55 l0_1 x6_1).f0, t676, t676⟩ : S55)])) else (none)) = some (r1, r2) := H
            have A29 := Aside0.mk A290
            clear A290
            by_cases c30 : x668001_1.length < 2932031007402
            · rw [if_pos c30] at H
              have LMc30 := Aside0.mk c30
              clear c30
              obtain ⟨y678, hy678⟩ : ∃ y_ : List (S55), y_ = (x668001_1 ++ [(⟨(rd_T55 l0_1 x6_1).f0, t676, t676⟩ : S55)]) := ⟨_, rfl⟩
              replace H : (tallystickref15_Crash.l0 k1 l1 (wrap64 (x6_1 + 1)) a0_0 l0_1 a0_0 y678) = some (r1, r2) := by first | (rw [hy678]; with_reducible exact H) | (have H2_ := (Option.bind_some _ _).symm.trans H; rw [hy678]; with_reducible exact H2_) | (have H2_ := (Option.bind_some _ _).symm.trans H; with_reducible exact H2_) | with_reducible exact H | (rw [hy678]; exact H) | exact H
              have Ny678 := Aside0.mk hy678
              clear hy678
              have H' := Aside0.mk H
              clear H
              have hnb31 := NB665_666.out
              have hnc31 := NB666_665.out
              have hnb32 := NB665_667.out
              have hnc32 := NB667_665.out
              have hcz33_0 : wr.cell? ⟨gb665, 0, none⟩ = some (.int .i64 a0_0) := (blk_cell BK665.out 0).trans rfl
              have hcz33_1 : wr.cell? ⟨gb665, 1, none⟩ = some (.slice A0_1 l0_1.length c0_1) := (blk_cell BK665.out 1).trans rfl
              have hfz33_0 := blk_frozen BK665.out 0
              have hfz33_1 := blk_frozen BK665.out 1
              have p675 : 0 ≤ (x6_1 : Int) := of_decide_eq_true (by first | (with_reducible assumption) | assumption)
              have q675 : x6_1 < (l0_1.length : Int) := of_decide_eq_true (by first | (with_reducible assumption) | assumption)
              obtain ⟨ad675, e675, hx675_0, hx675_1, hx675_2⟩ := at_T55 HR0_1.out x6_1 p675 q675
              cases e675
              replace hx675_0 := (HB.out.cell (World.block_lt_of_cell? w _ hx675_0)).trans hx675_0
              replace hx675_1 := (HB.out.cell (World.block_lt_of_cell? w _ hx675_1)).trans hx675_1
              replace hx675_2 := (HB.out.cell (World.block_lt_of_cell? w _ hx675_2)).trans hx675_2
              replace p675 := eq_true p675
              replace q675 := eq_true q675
              try go_wp2_with (first | ((with_reducible refine gate_callee (f := 46) rfl ?_); refine goesL_ (some 35) rfl rfl Try.func46 (by kernel_rfl) rfl #[.agg #[.string ((rd_T55 l0_1 x6_1).f0), .string ((rd_T55 l0_1 x6_1).f1), .string ((rd_T55 l0_1 x6_1).f2)], .int .u64 0] rfl (by (try simp only [List.map_toArray, List.map_cons, List.map_nil]); first | done | rfl | (simp only [List.length_drop, List.length_take]; rfl)) ?_; (with_reducible refine (tallystickref15_kept.calls k1 ((rd_T55 l0_1 x6_1).f0) ((rd_T55 l0_1 x6_1).f1) ((rd_T55 l0_1 x6_1).f2) 0 t676 _ A29.out).mono ?_); rintro e w34 ⟨rfl, hb⟩; refine ⟨_, rfl, ?_⟩; have n0_ := Aside0.mk (Kd.R_below (by (with_reducible repeat (first | apply Kd.R_alloc | apply Kd.R_drewN | apply Kd.R_drew)); exact HO_668001.out) hb); have n1_ := Aside0.mk (blk_below (g := gb665) (o := .cells #[.int .i64 a0_0, .slice (some ad675) l0_1.length c0_1] 46 (0, 0)) (by (with_reducible repeat (first | refine blk_drewN ?_ _ | refine blk_drew ?_ | refine blk_alloc ?_ _)); exact BK665.out) hb); have n2_ := Aside0.mk (blk_below (g := gb666) (o := .cells #[.int .i64 0, .slice none 0 0] 46 (0, 0)) (by (with_reducible repeat (first | refine blk_drewN ?_ _ | refine blk_drew ?_ | refine blk_alloc ?_ _)); exact BK666.out) hb); have n3_ := Aside0.mk (blk_below (g := gb667) (o := .cells #[.int .i64 a0_0, u668001] 46 (0, 0)) (by (with_reducible repeat (first | refine blk_drewN ?_ _ | refine blk_drew ?_ | refine blk_alloc ?_ _)); exact BK667.out) hb); have n4_ := Aside0.mk (below_step (by repeat (first | (with_reducible first | exact HB.out | apply below_alloc | apply pw_below_drewN | apply below_drew1 | refine below_set ?_ GE665.out | refine below_set ?_ GE666.out | refine below_set ?_ GE667.out) | exact HB.out)) hb); clear HO_668001; clear BK665; clear BK666; clear BK667; clear HB; have HO_668001 := n0_; have BK665 := n1_; have BK666 := n2_; have BK667 := n3_; have HB := n4_; clear n0_ n1_ n2_ n3_ n4_; (try clear hb); (try clear hb2); (try clear hk); (try clear hi)))
              have n0_ := Aside0.mk (Kd.R_drew HO_668001.out)
              have n1_ := Aside0.mk (blk_drew BK665.out)
              have n2_ := Aside0.mk (blk_drew BK666.out)
              have n3_ := Aside0.mk (blk_drew BK667.out)
              have n4_ := Aside0.mk (below_drew1 HB.out)
              clear HO_668001
              clear BK665
              clear BK666
              clear BK667
              clear HB
              have HO_668001 := n0_
              have BK665 := n1_
              have BK666 := n2_
              have BK667 := n3_
              have HB := n4_
              clear n0_ n1_ n2_ n3_ n4_
              have p677 : 0 ≤ (x6_1 : Int) := of_decide_eq_true (by first | (with_reducible assumption) | assumption)
              have q677 : x6_1 < (l0_1.length : Int) := of_decide_eq_true (by first | (with_reducible assumption) | assumption)
              obtain ⟨ad677, e677, hx677_0, hx677_1, hx677_2⟩ := at_T55 HR0_1.out x6_1 p677 q677
              have hw677_2 := hx677_2
              have hw677_1 := hx677_1
              have hw677_0 := hx677_0
              obtain rfl : ad675 = ad677 := (by injection e677)
              replace hx677_0 := (HB.out.cell (World.block_lt_of_cell? w _ hx677_0)).trans hx677_0
              replace hx677_1 := (HB.out.cell (World.block_lt_of_cell? w _ hx677_1)).trans hx677_1
              replace hx677_2 := (HB.out.cell (World.block_lt_of_cell? w _ hx677_2)).trans hx677_2
              replace p677 := eq_true p677
              replace q677 := eq_true q677
              refine start_ (n := 15) (S := fun w' => w'.cell? ⟨gb667, 0, none⟩ = some (.int .i64 a0_0) ∧ w'.cell? ⟨gb667, 1, none⟩ = some (u668001) ∧ w'.cell? ⟨gb665, 0, none⟩ = some (.int .i64 a0_0) ∧ w'.cell? ⟨gb665, 1, none⟩ = some (.slice (some ad675) l0_1.length c0_1) ∧ w'.cell? (ad675.add ((x6_1).toNat * 3)) = some (.string ((rd_T55 l0_1 x6_1).f0)) ∧ w'.cell? ⟨(ad675.add ((x6_1).toNat * 3)).block, (ad675.add ((x6_1).toNat * 3)).off + 1, none⟩ = some (.string ((rd_T55 l0_1 x6_1).f1)) ∧ w'.cell? ⟨(ad675.add ((x6_1).toNat * 3)).block, (ad675.add ((x6_1).toNat * 3)).off + 2, none⟩ = some (.string ((rd_T55 l0_1 x6_1).f2))) (ds := [14]) #[false, false, false, false, false, false, false, false, false, false, false, false, false, false, false] (by kernel_rfl) rfl rfl ⟨(blk_cell BK667.out 0).trans rfl, (blk_cell BK667.out 1).trans rfl, (blk_cell BK665.out 0).trans rfl, (blk_cell BK665.out 1).trans rfl, ((HB.out.cell (World.block_lt_of_cell? w _ hw677_0)).trans hw677_0), ((HB.out.cell (World.block_lt_of_cell? w _ hw677_1)).trans hw677_1), ((HB.out.cell (World.block_lt_of_cell? w _ hw677_2)).trans hw677_2)⟩ (fun hHeld => ?_); refine with_tabW tallystickref15_Crash.tab9 tallystickref15_Crash.bits9 (fun HT_ HW_ => ?_)
              generalize w34.drew = w35 at HO_668001 BK665 BK666 BK667 HB hx677_0 hx677_1 hx677_2 hHeld ⊢
              refine pure_ (i := 0) (N := some 36) (v := ?_) (a' := ?_) #[true, false, false, false, false, false, false, false, false, false, false, false, false, false, false] rfl rfl (any_of HT_.out (by kernel_rfl)) (fun _ _ _ h => h) (Or.inl ⟨by rfl, ?_⟩) ?_ ?_
              rotate_left
              · intro w'
                go_simp
                with_reducible rfl
              rotate_left
              · simp only [Act.put, List.setIfInBounds_toArray, List.set_cons_zero, List.set_cons_succ, i64_w, i32_w]
                rfl
              refine pure_ (i := 2) (N := some 38) (v := ?_) (a' := ?_) #[true, false, true, false, false, false, false, false, false, false, false, false, false, false, false] rfl rfl (any_of HT_.out (by kernel_rfl)) (fun _ _ _ h => h) (Or.inl ⟨by rfl, ?_⟩) ?_ ?_
              rotate_left
              · intro w'
                go_simp
                with_reducible rfl
              rotate_left
              · simp only [Act.put, List.setIfInBounds_toArray, List.set_cons_zero, List.set_cons_succ, i64_w, i32_w]
                rfl
              refine pure_ (i := 4) (N := some 40) (v := ?_) (a' := ?_) #[true, false, true, false, true, false, false, false, false, false, false, false, false, false, false] rfl rfl (any_of HT_.out (by kernel_rfl)) (fun _ _ _ h => h) (Or.inl ⟨by rfl, ?_⟩) ?_ ?_
              rotate_left
              · intro w'
                go_simp
                with_reducible rfl
              rotate_left
              · simp only [Act.put, List.setIfInBounds_toArray, List.set_cons_zero, List.set_cons_succ, i64_w, i32_w]
                rfl
              refine pure_ (i := 8) (N := some 44) (v := ?_) (a' := ?_) #[true, false, true, false, true, false, false, false, true, false, false, false, false, false, false] rfl rfl (any_of HT_.out (by kernel_rfl)) (fun _ _ _ h => h) (Or.inl ⟨by rfl, ?_⟩) ?_ ?_
              rotate_left
              · intro w'
                go_simp
                with_reducible rfl
              rotate_left
              · simp only [Act.put, List.setIfInBounds_toArray, List.set_cons_zero, List.set_cons_succ, i64_w, i32_w]
                rfl
              refine pure_ (i := 9) (N := some 45) (v := ?_) (a' := ?_) #[true, false, true, false, true, false, false, false, true, true, false, false, false, false, false] rfl rfl (any_of HT_.out (by kernel_rfl)) (fun _ _ _ h => h) (Or.inl ⟨by rfl, ?_⟩) ?_ ?_
              rotate_left
              · intro w'
                go_simp
                with_reducible rfl
              rotate_left
              · simp only [Act.put, List.setIfInBounds_toArray, List.set_cons_zero, List.set_cons_succ, i64_w, i32_w]
                rfl
              refine take_ (i := 1) (N := some 37) (v := ?_) (a' := ?_) #[true, true, true, false, true, false, false, false, true, true, false, false, false, false, false] rfl rfl (take_ofW HT_.out HW_.out (by kernel_rfl)) (fun _ _ _ h => h) (Or.inl ⟨by rfl, ?_⟩) hHeld ?_ ?_
              rotate_left
              · rintro w' ⟨s0, s1, s2, s3, s4, s5, s6⟩
                go_simp
                with_reducible rfl
              rotate_left
              · simp only [Act.put, List.setIfInBounds_toArray, List.set_cons_zero, List.set_cons_succ, i64_w, i32_w]
                rfl
              refine take_ (i := 3) (N := some 39) (v := ?_) (a' := ?_) #[true, true, true, true, true, false, false, false, true, true, false, false, false, false, false] rfl rfl (take_ofW HT_.out HW_.out (by kernel_rfl)) (fun _ _ _ h => h) (Or.inl ⟨by rfl, ?_⟩) hHeld ?_ ?_
              rotate_left
              · rintro w' ⟨s0, s1, s2, s3, s4, s5, s6⟩
                go_simp
                with_reducible rfl
              rotate_left
              · simp only [Act.put, List.setIfInBounds_toArray, List.set_cons_zero, List.set_cons_succ, i64_w, i32_w]
                rfl
              refine pure_ (i := 5) (N := some 41) (v := ?_) (a' := ?_) #[true, true, true, true, true, true, false, false, true, true, false, false, false, false, false] rfl rfl (any_of HT_.out (by kernel_rfl)) (fun _ _ _ h => h) (Or.inl ⟨by rfl, ?_⟩) ?_ ?_
              rotate_left
              · intro w'
                go_simp
                with_reducible rfl
              rotate_left
              · simp only [Act.put, List.setIfInBounds_toArray, List.set_cons_zero, List.set_cons_succ, i64_w, i32_w]
                rfl
              refine pure_ (i := 6) (N := some 42) (v := ?_) (a' := ?_) #[true, true, true, true, true, true, true, false, true, true, false, false, false, false, false] rfl rfl (any_of HT_.out (by kernel_rfl)) (fun _ _ _ h => h) (Or.inl ⟨by rfl, ?_⟩) ?_ ?_
              rotate_left
              · intro w'
                go_simp
                with_reducible rfl
              rotate_left
              · simp only [Act.put, List.setIfInBounds_toArray, List.set_cons_zero, List.set_cons_succ, i64_w, i32_w]
                rfl
              refine take_ (i := 7) (N := some 43) (v := ?_) (a' := ?_) #[true, true, true, true, true, true, true, true, true, true, false, false, false, false, false] rfl rfl (take_ofW HT_.out HW_.out (by kernel_rfl)) (fun _ _ _ h => h) (Or.inl ⟨by rfl, ?_⟩) hHeld ?_ ?_
              rotate_left
              · rintro w' ⟨s0, s1, s2, s3, s4, s5, s6⟩
                go_simp
                with_reducible rfl
              rotate_left
              · simp only [Act.put, List.setIfInBounds_toArray, List.set_cons_zero, List.set_cons_succ, i64_w, i32_w]
                rfl
              refine pure_ (i := 10) (N := some 46) (v := ?_) (a' := ?_) #[true, true, true, true, true, true, true, true, true, true, true, false, false, false, false] rfl rfl (any_of HT_.out (by kernel_rfl)) (fun _ _ _ h => h) (Or.inl ⟨by rfl, ?_⟩) ?_ ?_
              rotate_left
              · intro w'
                go_simp
                with_reducible rfl
              rotate_left
              · simp only [Act.put, List.setIfInBounds_toArray, List.set_cons_zero, List.set_cons_succ, i64_w, i32_w]
                rfl
              refine one_ (i := 11) (N := some 47) #[true, true, true, true, true, true, true, true, true, true, true, true, false, false, false] rfl rfl (one_of HT_.out (by kernel_rfl)) (by decide) (fun K hK => ?_)
              refine value_ (w1 := ?_) (v := ?_) (by rfl) rfl ?_ ?_
              rotate_left 2
              · go_simp
                constructor
                · rfl
                · rfl
              refine hK.out _ _ ⟨(blk_cell (blk_alloc BK667.out _) 0).trans rfl, (blk_cell (blk_alloc BK667.out _) 1).trans rfl, (blk_cell (blk_alloc BK665.out _) 0).trans rfl, (blk_cell (blk_alloc BK665.out _) 1).trans rfl, (World.cell?_alloc_lt _ _ _ (World.block_lt_of_cell? _ _ (((HB.out.cell (World.block_lt_of_cell? w _ hw677_0)).trans hw677_0)))).trans (((HB.out.cell (World.block_lt_of_cell? w _ hw677_0)).trans hw677_0)), (World.cell?_alloc_lt _ _ _ (World.block_lt_of_cell? _ _ (((HB.out.cell (World.block_lt_of_cell? w _ hw677_1)).trans hw677_1)))).trans (((HB.out.cell (World.block_lt_of_cell? w _ hw677_1)).trans hw677_1)), (World.cell?_alloc_lt _ _ _ (World.block_lt_of_cell? _ _ (((HB.out.cell (World.block_lt_of_cell? w _ hw677_2)).trans hw677_2)))).trans (((HB.out.cell (World.block_lt_of_cell? w _ hw677_2)).trans hw677_2))⟩ (fun hHeld => ?_)
              clear hK K
              refine norm_ (a' := ?_) ?_ ?_
              rotate_left
              · show Act.put _ (some 47) _ = _
                simp only [Act.put, List.setIfInBounds_toArray, List.set_cons_zero, List.set_cons_succ, i64_w, i32_w]
                rfl
              refine one_ (i := 12) (N := some 48) #[true, true, true, true, true, true, true, true, true, true, true, true, true, false, false] rfl rfl (one_of HT_.out (by kernel_rfl)) (by decide) (fun K hK => ?_)
              refine Kd.R_append_step k55 (w0 := w) w.heap.size (by rfl) (.tmp 37) (.tmp 47) 44 55 (.agg #[(.string ⟨#[]⟩), (.string ⟨#[]⟩), (.string ⟨#[]⟩)]) 48 rfl Try.underlying44 info55 rfl (by decide) (by omega) u668001 x668001_1 (⟨(rd_T55 l0_1 x6_1).f0, t676, t676⟩ : S55) [.string ((rd_T55 l0_1 x6_1).f0), .string t676, .string t676] (fun _ => True) (fun _ => False) rfl rfl ?aP (fun _ hk => hk.elim) ?aF ?aO ?aB ?aS ?aL ?_
              (case aP => exact k55_mkM _ _ _ (⟨(rd_T55 l0_1 x6_1).f0, t676, t676⟩ : S55))
              (case aB => exact (by repeat (first | (with_reducible first | exact HB.out | apply below_alloc | apply pw_below_drewN | apply below_drew1 | refine below_set ?_ GE665.out | refine below_set ?_ GE666.out | refine below_set ?_ GE667.out) | exact HB.out)))
              (case aF => exact (fun _ _ => trivial))
              (case aO => exact (by (with_reducible repeat (first | apply Kd.R_alloc | apply Kd.R_drewN | apply Kd.R_drew)); exact HO_668001.out))
              (case aS => exact (below_size (by repeat (first | (with_reducible first | exact HB.out | apply below_alloc | apply pw_below_drewN | apply below_drew1 | refine below_set ?_ GE665.out | refine below_set ?_ GE666.out | refine below_set ?_ GE667.out) | exact HB.out))))
              (case aL => have := LMc30.out; omega)
              intro v679 w36 ho hb hg hat
              rw [← Ny678.out] at ho
              have n0_ := Aside0.mk (blk_grown (g := gb665) (o := .cells #[.int .i64 a0_0, .slice (some ad675) l0_1.length c0_1] 46 (0, 0)) (by (with_reducible repeat (first | refine blk_drewN ?_ _ | refine blk_drew ?_ | refine blk_alloc ?_ _)); exact BK665.out) hg (Kd.R_ne HO_668001.out BK665.out (by decide)))
              have n1_ := Aside0.mk (blk_grown (g := gb666) (o := .cells #[.int .i64 0, .slice none 0 0] 46 (0, 0)) (by (with_reducible repeat (first | refine blk_drewN ?_ _ | refine blk_drew ?_ | refine blk_alloc ?_ _)); exact BK666.out) hg (Kd.R_ne HO_668001.out BK666.out (by decide)))
              have n2_ := Aside0.mk (blk_grown (g := gb667) (o := .cells #[.int .i64 a0_0, u668001] 46 (0, 0)) (by (with_reducible repeat (first | refine blk_drewN ?_ _ | refine blk_drew ?_ | refine blk_alloc ?_ _)); exact BK667.out) hg (Kd.R_ne HO_668001.out BK667.out (by decide)))
              have n3_ := Aside0.mk (hb)
              have n4_ := Aside0.mk (ho)
              clear BK665
              clear BK666
              clear BK667
              clear HB
              clear HO_668001
              have BK665 := n0_
              have BK666 := n1_
              have BK667 := n2_
              have HB := n3_
              have HO680 := n4_
              clear n0_ n1_ n2_ n3_ n4_
              clear ho hb hg hat
              obtain ⟨Ao37, co37, eo37⟩ := Kd.R_slice HO680.out
              (first | subst eo37 | (injection eo37 with f1_ f2_ f3_; have f4_ := f1_.symm; have f5_ := f3_.symm; clear f1_ f2_ f3_; subst f4_; subst f5_))
              refine hK.out _ _ ⟨(blk_cell BK667.out 0).trans rfl, (blk_cell BK667.out 1).trans rfl, (blk_cell BK665.out 0).trans rfl, (blk_cell BK665.out 1).trans rfl, ((HB.out.cell (World.block_lt_of_cell? w _ hw677_0)).trans hw677_0), ((HB.out.cell (World.block_lt_of_cell? w _ hw677_1)).trans hw677_1), ((HB.out.cell (World.block_lt_of_cell? w _ hw677_2)).trans hw677_2)⟩ (fun hHeld => ?_)
              clear hK K
              refine norm_ (a' := ?_) ?_ ?_
              rotate_left
              · show Act.put _ (some 48) _ = _
                simp only [Act.put, List.setIfInBounds_toArray, List.set_cons_zero, List.set_cons_succ, i64_w, i32_w]
                rfl
              refine pure_ (i := 13) (N := some 49) (v := ?_) (a' := ?_) #[true, true, true, true, true, true, true, true, true, true, true, true, true, true, false] rfl rfl (any_of HT_.out (by kernel_rfl)) (fun _ _ _ h => h) (Or.inl ⟨by rfl, ?_⟩) ?_ ?_
              rotate_left
              · intro w'
                go_simp
                with_reducible rfl
              rotate_left
              · simp only [Act.put, List.setIfInBounds_toArray, List.set_cons_zero, List.set_cons_succ, i64_w, i32_w]
                rfl
              refine last_ (i := 14) (N := none) #[true, true, true, true, true, true, true, true, true, true, true, true, true, true, true] rfl rfl (one_of HT_.out (by kernel_rfl)) (by decide) (fun K hK => ?_)
              have hs38 : w36.cell? ⟨gb667, 1, none⟩ = some (u668001) := (blk_cell BK667.out 1).trans rfl
              have hfs38 := blk_frozen BK667.out 1
              have hns38_0 := NB665_667.out
              have hns38_1 := NB666_667.out
              have hms38_0 := NB667_665.out
              have hms38_1 := NB667_666.out
              refine skip_ (w1 := ?_) (by rfl) rfl ?_ ?_
              rotate_left
              · go_simp
                rfl
              refine hK.out _ _ ?_
              clear hK K
              refine done_ (done_of HT_.out (by kernel_rfl)) ?_
              try go_wp2
              go_roundg k1
              case measure => have := HK1.out; omega
              case rel => exact ⟨(wrap64 (x6_1 + 1)), (y678), (.slice Ao37 y678.length co37), (by first | rfl | (simp; done) | (simp [*]; done)), H', ⟨by have := HK1.out; omega⟩, ⟨by (with_reducible repeat (first | apply Kd.R_alloc | apply Kd.R_drewN | apply Kd.R_drew)); exact Kd.R_mono (Kd.R_far (p := ⟨gb667, 1, none⟩) (Kd.R_types HO680.out BK667.out (by decide)) (fun _ hk => hk.2) (.slice Ao37 y678.length co37)) (fun _ hk => trivial)⟩, ⟨by (with_reducible repeat (first | refine blk_drewN ?_ _ | refine blk_drew ?_ | refine blk_alloc ?_ _)); refine blk_far ?_ NB665_667.out _; (with_reducible repeat (first | refine blk_drewN ?_ _ | refine blk_drew ?_ | refine blk_alloc ?_ _)); exact BK665.out⟩, ⟨by (with_reducible repeat (first | refine blk_drewN ?_ _ | refine blk_drew ?_ | refine blk_alloc ?_ _)); refine blk_far ?_ NB666_667.out _; (with_reducible repeat (first | refine blk_drewN ?_ _ | refine blk_drew ?_ | refine blk_alloc ?_ _)); exact BK666.out⟩, ⟨by (with_reducible repeat (first | refine blk_drewN ?_ _ | refine blk_drew ?_ | refine blk_alloc ?_ _)); refine blk_put (cs := #[.int .i64 a0_0, u668001]) ?_ 1 _ rfl; (with_reducible repeat (first | refine blk_drewN ?_ _ | refine blk_drew ?_ | refine blk_alloc ?_ _)); exact BK667.out⟩, ⟨by repeat (first | (with_reducible first | exact HB.out | apply below_alloc | apply pw_below_drewN | apply below_drew1 | refine below_set ?_ GE665.out | refine below_set ?_ GE666.out | refine below_set ?_ GE667.out) | exact HB.out)⟩⟩
            · rw [if_neg c30] at H
              exact absurd H (by simp)
          · rw [if_neg c28] at H
            exact absurd H (by simp)
      · rw [if_neg c11] at H
        have c11b0 : decide (x6_1 < (l0_1.length : Int)) = false := decide_eq_false c11
        clear c11
        simp only [Option.some.injEq, Prod.mk.injEq] at H
        obtain ⟨rfl, rfl⟩ := H
        have hnb39 := NB665_666.out
        have hnc39 := NB666_665.out
        have hnb40 := NB665_667.out
        have hnc40 := NB667_665.out
        have hcz41_0 : wr.cell? ⟨gb665, 0, none⟩ = some (.int .i64 a0_0) := (blk_cell BK665.out 0).trans rfl
        have hcz41_1 : wr.cell? ⟨gb665, 1, none⟩ = some (.slice A0_1 l0_1.length c0_1) := (blk_cell BK665.out 1).trans rfl
        have hfz41_0 := blk_frozen BK665.out 0
        have hfz41_1 := blk_frozen BK665.out 1
        have hnb42 := NB667_666.out
        have hnc42 := NB666_667.out
        have hcz43_0 : wr.cell? ⟨gb667, 0, none⟩ = some (.int .i64 a0_0) := (blk_cell BK667.out 0).trans rfl
        have hcz43_1 : wr.cell? ⟨gb667, 1, none⟩ = some (u668001) := (blk_cell BK667.out 1).trans rfl
        have hfz43_0 := blk_frozen BK667.out 0
        have hfz43_1 := blk_frozen BK667.out 1
        have hcz44_0 : wr.cell? ⟨gb666, 0, none⟩ = some (.int .i64 0) := (blk_cell BK666.out 0).trans rfl
        have hcz44_1 : wr.cell? ⟨gb666, 1, none⟩ = some (.slice none 0 0) := (blk_cell BK666.out 1).trans rfl
        have hfz44_0 := blk_frozen BK666.out 0
        have hfz44_1 := blk_frozen BK666.out 1
        obtain ⟨Ao45, co45, eo45⟩ := Kd.R_slice HO_668001.out
        subst eo45
        go_wp2
        refine bodyPost_ret (results_cell_row rfl _ _ gb666 46 #[.int .i64 a0_0, .slice Ao45 x668001_1.length co45] (0, 0) _ rfl (by (with_reducible repeat (first | refine blk_drewN ?_ _ | refine blk_drew ?_ | refine blk_alloc ?_ _)); refine blk_put (cs := #[.int .i64 a0_0, .slice none 0 0]) ?_ 1 _ rfl; (with_reducible repeat (first | refine blk_drewN ?_ _ | refine blk_drew ?_ | refine blk_alloc ?_ _)); refine blk_put (cs := #[.int .i64 0, .slice none 0 0]) ?_ 0 _ rfl; (with_reducible repeat (first | refine blk_drewN ?_ _ | refine blk_drew ?_ | refine blk_alloc ?_ _)); exact BK666.out) Try.underlying46 rfl (by kernel_rfl)) rfl ?_
        exact ⟨_, by first | rfl | (simp [errW_none, errW_some] <;> rfl) | (simp [*, errW_none, errW_some] <;> rfl), by (with_reducible repeat (first | apply Kd.R_alloc | apply Kd.R_drewN | apply Kd.R_drew)); exact Kd.R_mono (Kd.R_far (p := ⟨gb666, 1, none⟩) (Kd.R_far (p := ⟨gb666, 0, none⟩) (Kd.R_types HO_668001.out BK666.out (by decide)) (fun _ hk => hk.2) (.int .i64 a0_0)) (fun _ hk => hk.2) (.slice Ao45 x668001_1.length co45)) (fun _ hk => trivial), by repeat (first | (with_reducible first | exact HB.out | apply below_alloc | apply pw_below_drewN | apply below_drew1 | refine below_set ?_ GE665.out | refine below_set ?_ GE666.out | refine below_set ?_ GE667.out) | exact HB.out)⟩

end Go.Proofs.Ytbpobnlkfpjijaa.Pr
