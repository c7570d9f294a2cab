-- Laid by a program (wip/pr.sh), out of the translation.
import Derived.Test.YtbpobnlkfpjijaaPr0
import Derived.Test.YtbpobnlkfpjijaaPr80
namespace Go.Proofs.Ytbpobnlkfpjijaa.Pr
open Go.RowKit Go.Proofs.YtbpobnlkfpjijaaW.PrintWords Go.Proofs.YtbpobnlkfpjijaaW.PrintLast Go.Proofs.YtbpobnlkfpjijaaW.PrintMore
attribute [local go_sem] max2_int min2_int max_two min_two max_three min_three max_four min_four   -- for this text's walks alone
set_option linter.unusedVariables false
set_option linter.unusedSimpArgs false

attribute [local go_sem] Go.Proofs.Aid.cell_set_row
/-! ### tallystickref15_Right: function 21 -/
mutual
def tallystickref15_Right.j0 : Nat → Bool → Int → List (S55) → Option (Bool)
  | 0, _, _, _ => none
  | k + 1, x13, x642000, x642001 => if x13 = true then (some false) else (tallystickref15_Right.l0 k 0 x642000 x642001)
def tallystickref15_Right.l0 : Nat → Int → Int → List (S55) → Option (Bool)
  | 0, _, _, _ => none
  | k + 1, x3, x642000, x642001 => if x3 < (x642001.length : Int) then (if 0 ≤ x3 then ((tallystickref15_name.f ((rd_T55 x642001 x3).f0)).bind fun t643 => (if t643 = true then (if x3 > 0 then (if 0 ≤ (wrap64 (x3 - 1)) then (if (wrap64 (x3 - 1)) < (x642001.length : Int) then (if ((Op.bytesLess (((rd_T55 x642001 (wrap64 (x3 - 1))).f0).toList) (((rd_T55 x642001 x3).f0).toList)) = true) then (tallystickref15_Right.l0 k (wrap64 (x3 + 1)) x642000 x642001) else (some false)) else (none)) else (none)) else (tallystickref15_Right.l0 k (wrap64 (x3 + 1)) x642000 x642001)) else (some false))) else (none)) else (some true)
end
def tallystickref15_Right.f (k : Nat) (a0_0 : Int) (l0_1 : List (S55)) : Option (Bool) := if a0_0 < 0 then (tallystickref15_Right.j0 k true a0_0 l0_1) else (tallystickref15_Right.j0 k (decide ((l0_1.length : Int) > 64)) a0_0 l0_1)
theorem tallystickref15_Right.mono_l : ∀ k, (∀ y0 y1 y2, LeO (tallystickref15_Right.j0 k y0 y1 y2) (tallystickref15_Right.j0 (k + 1) y0 y1 y2)) ∧ (∀ y0 y1 y2, LeO (tallystickref15_Right.l0 k y0 y1 y2) (tallystickref15_Right.l0 (k + 1) y0 y1 y2))
  | 0 => ⟨fun _ _ _ r h => by simp [tallystickref15_Right.j0] at h, fun _ _ _ r h => by simp [tallystickref15_Right.l0] at h⟩
  | k + 1 => by
    obtain ⟨ih0, ih1⟩ := tallystickref15_Right.mono_l k
    refine ⟨?_, ?_⟩
    · intro y0 y1 y2
      unfold tallystickref15_Right.j0
      repeat' first
      | (with_reducible exact ih0 _ _ _)
      | (with_reducible exact ih1 _ _ _)
      | (with_reducible exact LeO.refl _)
      | (with_reducible exact LeO.none _)
      | (with_reducible refine LeO.ite ?_ ?_)
      | (with_reducible refine LeO.bind ?_ (fun _ => ?_))
      | exact ih0 _ _ _
      | exact ih1 _ _ _
      | exact LeO.none _
      | refine LeO.ite ?_ ?_
      | refine LeO.bind ?_ (fun _ => ?_)
    · intro y0 y1 y2
      unfold tallystickref15_Right.l0
      repeat' first
      | (with_reducible exact ih0 _ _ _)
      | (with_reducible exact ih1 _ _ _)
      | (with_reducible exact LeO.refl _)
      | (with_reducible exact LeO.none _)
      | (with_reducible refine LeO.ite ?_ ?_)
      | (with_reducible refine LeO.bind ?_ (fun _ => ?_))
      | exact ih0 _ _ _
      | exact ih1 _ _ _
      | exact LeO.none _
      | refine LeO.ite ?_ ?_
      | refine LeO.bind ?_ (fun _ => ?_)
theorem tallystickref15_Right.mono : ∀ a0 a1 k, LeO (tallystickref15_Right.f k a0 a1) (tallystickref15_Right.f (k + 1) a0 a1) := by
  intro a0 a1 k
  obtain ⟨ih0, ih1⟩ := tallystickref15_Right.mono_l k
  unfold tallystickref15_Right.f
  repeat' first
      | (with_reducible exact ih0 _ _ _)
      | (with_reducible exact ih1 _ _ _)
      | (with_reducible exact LeO.refl _)
      | (with_reducible exact LeO.none _)
      | (with_reducible refine LeO.ite ?_ ?_)
      | (with_reducible refine LeO.bind ?_ (fun _ => ?_))
      | exact ih0 _ _ _
      | exact ih1 _ _ _
      | exact LeO.none _
      | refine LeO.ite ?_ ?_
      | refine LeO.bind ?_ (fun _ => ?_)
set_option maxHeartbeats 8000000 in
set_option maxRecDepth 100000 in
theorem tallystickref15_Right.calls (k : Nat) (a0_0 : Int) (A0_1 : Option Addr) (c0_1 : Nat) (l0_1 : List (S55)) (r : Bool) (w : World) (hr0_1 : Kd.C k55 w A0_1 l0_1.length l0_1) (hc0_1 : l0_1.length ≤ c0_1) (h : tallystickref15_Right.f k a0_0 l0_1 = some r) :
    Calls Try.prog 21 #[.agg #[.int .i64 a0_0, .slice A0_1 l0_1.length c0_1]] w fun e w' => e = .returned (.bool r) ∧ Below w.heap.size w w' := by
  have hu46 := Try.underlying46
  have HR0_1 := Aside0.mk hr0_1
  have HC0_1 := Aside0.mk hc0_1
  clear hr0_1 hc0_1
  have HB := Aside0.mk (Below.refl w.heap.size w)
  have H : (if a0_0 < 0 then (tallystickref15_Right.j0 k true a0_0 l0_1) else (tallystickref15_Right.j0 k (decide ((l0_1.length : Int) > 64)) a0_0 l0_1)) = some r := h
  clear h
  have HC2 := Aside0.mk H
  clear H
  go_enter Try.func21, Try.ntmps21
  go_upto_region 1 with (first | ((with_reducible refine gate_dst (N := 1) rfl ?_); (try (refine gate_guard (by rfl) ?_; dsimp only)); refine box_event ?hg (N := 1) ?hd (cs := #[.int .i64 a0_0, .slice A0_1 l0_1.length c0_1]) (t := 46) ?hr ?_; (case hd => rfl); (case hg => rfl); (case hr => first | (go_simp; done) | (go_simp; rfl)); intro gb641 hg w3 hbox hb; have n0_ := Aside0.mk (below_step (by repeat (first | (with_reducible first | exact HB.out | apply below_alloc | apply pw_below_drewN | apply below_drew1) | exact HB.out)) hb); have n1_ := Aside0.mk (hbox); have n2_ := Aside0.mk ((by rw [hg]; exact (below_size (by repeat (first | (with_reducible first | exact HB.out | apply below_alloc | apply pw_below_drewN | apply below_drew1) | exact HB.out))) : w.heap.size ≤ gb641)); have n3_ := Aside0.mk ((by rw [hg]; exact (below_size (by repeat (first | (with_reducible first | exact HB.out | apply below_alloc | apply pw_below_drewN | apply below_drew1) | exact HB.out))) : w.heap.size ≤ gb641)); clear HB; have HB := n0_; have BK641 := n1_; have GW641 := n2_; have GE641 := n3_; clear n0_ n1_ n2_ n3_; clear hb hbox hg))
  repeat (go_quiet (first | ((with_reducible refine gate_dst (N := 1) rfl ?_); (try (refine gate_guard (by rfl) ?_; dsimp only)); refine box_event ?hg (N := 1) ?hd (cs := #[.int .i64 a0_0, .slice A0_1 l0_1.length c0_1]) (t := 46) ?hr ?_; (case hd => rfl); (case hg => rfl); (case hr => first | (go_simp; done) | (go_simp; rfl)); intro gb641 hg w3 hbox hb; have n0_ := Aside0.mk (below_step (by repeat (first | (with_reducible first | exact HB.out | apply below_alloc | apply pw_below_drewN | apply below_drew1) | exact HB.out)) hb); have n1_ := Aside0.mk (hbox); have n2_ := Aside0.mk ((by rw [hg]; exact (below_size (by repeat (first | (with_reducible first | exact HB.out | apply below_alloc | apply pw_below_drewN | apply below_drew1) | exact HB.out))) : w.heap.size ≤ gb641)); have n3_ := Aside0.mk ((by rw [hg]; exact (below_size (by repeat (first | (with_reducible first | exact HB.out | apply below_alloc | apply pw_below_drewN | apply below_drew1) | exact HB.out))) : w.heap.size ≤ gb641)); clear HB; have HB := n0_; have BK641 := n1_; have GW641 := n2_; have GE641 := n3_; clear n0_ n1_ n2_ n3_; clear hb hbox hg)); go_upto_region 1 with (first | ((with_reducible refine gate_dst (N := 1) rfl ?_); (try (refine gate_guard (by rfl) ?_; dsimp only)); refine box_event ?hg (N := 1) ?hd (cs := #[.int .i64 a0_0, .slice A0_1 l0_1.length c0_1]) (t := 46) ?hr ?_; (case hd => rfl); (case hg => rfl); (case hr => first | (go_simp; done) | (go_simp; rfl)); intro gb641 hg w3 hbox hb; have n0_ := Aside0.mk (below_step (by repeat (first | (with_reducible first | exact HB.out | apply below_alloc | apply pw_below_drewN | apply below_drew1) | exact HB.out)) hb); have n1_ := Aside0.mk (hbox); have n2_ := Aside0.mk ((by rw [hg]; exact (below_size (by repeat (first | (with_reducible first | exact HB.out | apply below_alloc | apply pw_below_drewN | apply below_drew1) | exact HB.out))) : w.heap.size ≤ gb641)); have n3_ := Aside0.mk ((by rw [hg]; exact (below_size (by repeat (first | (with_reducible first | exact HB.out | apply below_alloc | apply pw_below_drewN | apply below_drew1) | exact HB.out))) : w.heap.size ≤ gb641)); clear HB; have HB := n0_; have BK641 := n1_; have GW641 := n2_; have GE641 := n3_; clear n0_ n1_ n2_ n3_; clear hb hbox hg)))
  (try simp only [Act.put, List.setIfInBounds_toArray, List.set_cons_zero, List.set_cons_succ])
  go_cut [13] (fun v13 wc => ∃ (kq : Nat) (x13_1 : Bool), v13 = .bool x13_1 ∧ Aside0 (tallystickref15_Right.j0 kq x13_1 a0_0 l0_1 = some r) ∧ Aside0 (kq ≤ k) ∧ Aside0 (wc.heap[gb641]? = some (.cells #[.int .i64 a0_0, (.slice A0_1 l0_1.length c0_1)] 46 (0, 0))) ∧ Aside0 (Below w.heap.size w wc))
  case first =>
    have H := HC2.out
    clear HC2
    by_cases c4 : a0_0 < 0
    · rw [if_pos c4] at H
      have c4b0 : decide (a0_0 < 0) = true := decide_eq_true c4
      clear c4
      (first | rw [c4b0] | (simp only [i64_w, i32_w]; rw [c4b0]) | skip)
      have H' := Aside0.mk H
      clear H
      have hcz5_0 : w3.cell? ⟨gb641, 0, none⟩ = some (.int .i64 a0_0) := (blk_cell BK641.out 0).trans rfl
      have hcz5_1 : w3.cell? ⟨gb641, 1, none⟩ = some (.slice A0_1 l0_1.length c0_1) := (blk_cell BK641.out 1).trans rfl
      have hfz5_0 := blk_frozen BK641.out 0
      have hfz5_1 := blk_frozen BK641.out 1
      go_wp2
      repeat (go_quiet (fail); try go_wp2)
      go_meet
      case rel => exact ⟨_, (true), (by first | rfl | (simp; done) | (simp [*]; done)), H', ⟨by first | omega | exact Nat.le_refl _⟩, ⟨by (with_reducible repeat (first | refine blk_drewN ?_ _ | refine blk_drew ?_ | refine blk_alloc ?_ _)); exact BK641.out⟩, ⟨by repeat (first | (with_reducible first | exact HB.out | apply below_alloc | apply pw_below_drewN | apply below_drew1 | refine below_set ?_ GE641.out) | exact HB.out)⟩⟩
    · rw [if_neg c4] at H
      have c4b0 : decide (a0_0 < 0) = false := decide_eq_false c4
      clear c4
      (first | rw [c4b0] | (simp only [i64_w, i32_w]; rw [c4b0]) | skip)
      have H' := Aside0.mk H
      clear H
      have hcz6_0 : w3.cell? ⟨gb641, 0, none⟩ = some (.int .i64 a0_0) := (blk_cell BK641.out 0).trans rfl
      have hcz6_1 : w3.cell? ⟨gb641, 1, none⟩ = some (.slice A0_1 l0_1.length c0_1) := (blk_cell BK641.out 1).trans rfl
      have hfz6_0 := blk_frozen BK641.out 0
      have hfz6_1 := blk_frozen BK641.out 1
      go_wp2
      repeat (go_quiet (fail); try go_wp2)
      go_meet
      case rel => exact ⟨_, (decide ((l0_1.length : Int) > 64)), (by first | rfl | (simp; done) | (simp [*]; done)), H', ⟨by first | omega | exact Nat.le_refl _⟩, ⟨by (with_reducible repeat (first | refine blk_drewN ?_ _ | refine blk_drew ?_ | refine blk_alloc ?_ _)); exact BK641.out⟩, ⟨by repeat (first | (with_reducible first | exact HB.out | apply below_alloc | apply pw_below_drewN | apply below_drew1 | refine below_set ?_ GE641.out) | exact HB.out)⟩⟩
  case rest =>
    clear HC2
    try clear c2
    try clear p2
    try clear c4
    try clear c4b0
    try clear hcz5_0
    try clear hcz5_1
    try clear hcz6_0
    try clear hcz6_1
    try clear hfz5_0
    try clear hfz5_1
    try clear hfz6_0
    try clear hfz6_1
    obtain ⟨kq, x13_1, rfl, HA, HJ1, BK641, HB⟩ := hcut
    cases kq with
    | zero => exact absurd HA.out (by simp [tallystickref15_Right.j0])
    | succ kj1 =>
      have H := HA.out
      clear HA
      simp only [tallystickref15_Right.j0] at H
      by_cases c7 : x13_1 = true
      · subst c7
        have H1 : (some false) = some r := by rw [if_pos rfl] at H; exact H
        clear H
        have H := H1
        clear H1
        obtain rfl := Option.some.inj H
        go_wp2
        repeat (go_quiet (fail); try go_wp2)
        go_ret
        exact ⟨by first | rfl | (simp [errW_none, errW_some] <;> rfl) | (simp [*, errW_none, errW_some] <;> rfl), by repeat (first | (with_reducible first | exact HB.out | apply below_alloc | apply pw_below_drewN | apply below_drew1 | refine below_set ?_ GE641.out) | exact HB.out)⟩
      · replace c7 := Bool.eq_false_iff.mpr c7
        subst c7
        have H1 : (tallystickref15_Right.l0 kj1 0 a0_0 l0_1) = some r := by rw [if_neg (show ¬ (false = true) by decide)] at H; exact H
        clear H
        have H := H1
        clear H1
        have H' := Aside0.mk H
        clear H
        go_wp2
        repeat (go_quiet (fail); try go_wp2)
        go_loopg [3] kj1 (fun kq v3 w' => ∃ (x3_2 : Int), v3 = .int .i64 x3_2 ∧ Aside0 (tallystickref15_Right.l0 kq x3_2 a0_0 l0_1 = some r) ∧ Aside0 (kq ≤ kj1) ∧ Aside0 (w'.heap[gb641]? = some (.cells #[.int .i64 a0_0, (.slice A0_1 l0_1.length c0_1)] 46 (0, 0))) ∧ Aside0 (Below w.heap.size w w'))
        case atStart => exact ⟨(0), (by first | rfl | (simp; done) | (simp [*]; done)), H', ⟨Nat.le_refl _⟩, ⟨by (with_reducible repeat (first | refine blk_drewN ?_ _ | refine blk_drew ?_ | refine blk_alloc ?_ _)); exact BK641.out⟩, ⟨by repeat (first | (with_reducible first | exact HB.out | apply below_alloc | apply pw_below_drewN | apply below_drew1 | refine below_set ?_ GE641.out) | exact HB.out)⟩⟩
        case round =>
          clear H'
          try clear c2
          try clear p2
          try clear c4
          try clear c4b0
          try clear c7
          try clear hcz5_0
          try clear hcz5_1
          try clear hcz6_0
          try clear hcz6_1
          try clear hfz5_0
          try clear hfz5_1
          try clear hfz6_0
          try clear hfz6_1
          try clear p2
          obtain ⟨x3_2, rfl, HA, HK2, BK641, HB⟩ := hrel
          cases gk with
          | zero => exact absurd HA.out (by simp [tallystickref15_Right.l0])
          | succ k2 =>
            have H := HA.out
            clear HA
            simp only [tallystickref15_Right.l0] at H
            by_cases c8 : x3_2 < (l0_1.length : Int)
            · rw [if_pos c8] at H
              have c8b0 : decide (x3_2 < (l0_1.length : Int)) = true := decide_eq_true c8
              clear c8
              by_cases c9 : 0 ≤ x3_2
              · rw [if_pos c9] at H
                have c9b0 : decide (0 ≤ x3_2) = true := decide_eq_true c9
                clear c9
                replace H := Option.bind_eq_some_iff.mp H
                obtain ⟨t643, A100, H⟩ := H
                replace H : (if t643 = true then (if x3_2 > 0 then (if 0 ≤ (wrap64 (x3_2 - 1)) then (if (wrap64 (x3_2 - 1)) < (l0_1.length : Int) then (if ((Op.bytesLess (((rd_T55 l0_1 (wrap64 (x3_2 - 1))).f0).toList) (((rd_T55 l0_1 x3_2).f0).toList)) = true) then (tallystickref15_Right.l0 k2 (wrap64 (x3_2 + 1)) a0_0 l0_1) else (some false)) else (none)) else (none)) else (tallystickref15_Right.l0 k2 (wrap64 (x3_2 + 1)) a0_0 l0_1)) else (some false)) = some r := H
                have A10 := Aside0.mk A100
                clear A100
                by_cases c11 : t643 = true
                · subst c11
                  have H1 : (if x3_2 > 0 then (if 0 ≤ (wrap64 (x3_2 - 1)) then (if (wrap64 (x3_2 - 1)) < (l0_1.length : Int) then (if ((Op.bytesLess (((rd_T55 l0_1 (wrap64 (x3_2 - 1))).f0).toList) (((rd_T55 l0_1 x3_2).f0).toList)) = true) then (tallystickref15_Right.l0 k2 (wrap64 (x3_2 + 1)) a0_0 l0_1) else (some false)) else (none)) else (none)) else (tallystickref15_Right.l0 k2 (wrap64 (x3_2 + 1)) a0_0 l0_1)) = some r := by rw [if_pos rfl] at H; exact H
                  clear H
                  have H := H1
                  clear H1
                  by_cases c12 : x3_2 > 0
                  · rw [if_pos c12] at H
                    have c12b0 : decide (0 < x3_2) = true := decide_eq_true c12
                    clear c12
                    obtain ⟨ji13, hji13⟩ : ∃ j_ : Int, (wrap64 (x3_2 - 1)) = j_ := ⟨_, rfl⟩
                    replace H : (if 0 ≤ (ji13) then (if (ji13) < (l0_1.length : Int) then (if ((Op.bytesLess (((rd_T55 l0_1 (ji13)).f0).toList) (((rd_T55 l0_1 x3_2).f0).toList)) = true) then (tallystickref15_Right.l0 k2 (wrap64 (x3_2 + 1)) a0_0 l0_1) else (some false)) else (none)) else (none)) = some r := by first | (rw [hji13] at H; exact H) | (simp only [hji13] at H ⊢; exact H)
                    (try rw [hji13] at A10)
                    have hji13w : (IntKind.i64.wrap (x3_2 - 1)) = ji13 := (i64_w _).trans hji13
                    by_cases c14 : 0 ≤ (ji13)
                    · rw [if_pos c14] at H
                      have c14b0 : decide (0 ≤ (ji13)) = true := decide_eq_true c14
                      clear c14
                      by_cases c15 : (ji13) < (l0_1.length : Int)
                      · rw [if_pos c15] at H
                        have c15b0 : decide ((ji13) < (l0_1.length : Int)) = true := decide_eq_true c15
                        clear c15
                        by_cases c16 : ((Op.bytesLess (((rd_T55 l0_1 (ji13)).f0).toList) (((rd_T55 l0_1 x3_2).f0).toList)) = true)
                        · rw [if_pos c16] at H
                          have c16b0 : (Op.bytesLess (((rd_T55 l0_1 (ji13)).f0).toList) (((rd_T55 l0_1 x3_2).f0).toList)) = true := c16
                          clear c16
                          have H' := Aside0.mk H
                          clear H
                          have hcz17_0 : wr.cell? ⟨gb641, 0, none⟩ = some (.int .i64 a0_0) := (blk_cell BK641.out 0).trans rfl
                          have hcz17_1 : wr.cell? ⟨gb641, 1, none⟩ = some (.slice A0_1 l0_1.length c0_1) := (blk_cell BK641.out 1).trans rfl
                          have hfz17_0 := blk_frozen BK641.out 0
                          have hfz17_1 := blk_frozen BK641.out 1
                          have p642 : 0 ≤ (x3_2 : Int) := of_decide_eq_true (by first | (with_reducible assumption) | assumption)
                          have q642 : x3_2 < (l0_1.length : Int) := of_decide_eq_true (by first | (with_reducible assumption) | assumption)
                          obtain ⟨ad642, e642, hx642_0, hx642_1, hx642_2⟩ := at_T55 HR0_1.out x3_2 p642 q642
                          cases e642
                          replace hx642_0 := (HB.out.cell (World.block_lt_of_cell? w _ hx642_0)).trans hx642_0
                          replace hx642_1 := (HB.out.cell (World.block_lt_of_cell? w _ hx642_1)).trans hx642_1
                          replace hx642_2 := (HB.out.cell (World.block_lt_of_cell? w _ hx642_2)).trans hx642_2
                          replace p642 := eq_true p642
                          replace q642 := eq_true q642
                          go_wp2_with (first | (go_at_call 43; (with_reducible refine (tallystickref15_name.calls ((rd_T55 l0_1 x3_2).f0) true _ A10.out).mono ?_); rintro e w' ⟨rfl, ⟨nd, rfl⟩⟩; (try first | exact ⟨rfl, _, World.drewN_drewN _ _ _⟩ | exact ⟨rfl, _, Eq.trans (World.drewN_drewN _ _ _) (congrArg (World.drewN _) (Nat.add_assoc _ _ _))⟩); have p644 : 0 ≤ ((ji13) : Int) := of_decide_eq_true (by first | (with_reducible assumption) | assumption); have q644 : (ji13) < (l0_1.length : Int) := of_decide_eq_true (by first | (with_reducible assumption) | assumption); obtain ⟨ad644, e644, hx644_0, hx644_1, hx644_2⟩ := at_T55 HR0_1.out (ji13) p644 q644; obtain rfl : ad642 = ad644 := (by injection e644); replace hx644_0 := (HB.out.cell (World.block_lt_of_cell? w _ hx644_0)).trans hx644_0; replace hx644_1 := (HB.out.cell (World.block_lt_of_cell? w _ hx644_1)).trans hx644_1; replace hx644_2 := (HB.out.cell (World.block_lt_of_cell? w _ hx644_2)).trans hx644_2; replace p644 := eq_true p644; replace q644 := eq_true q644; have p645 : 0 ≤ (x3_2 : Int) := of_decide_eq_true (by first | (with_reducible assumption) | assumption); have q645 : x3_2 < (l0_1.length : Int) := of_decide_eq_true (by first | (with_reducible assumption) | assumption); obtain ⟨ad645, e645, hx645_0, hx645_1, hx645_2⟩ := at_T55 HR0_1.out x3_2 p645 q645; obtain rfl : ad642 = ad645 := (by injection e645); replace hx645_0 := (HB.out.cell (World.block_lt_of_cell? w _ hx645_0)).trans hx645_0; replace hx645_1 := (HB.out.cell (World.block_lt_of_cell? w _ hx645_1)).trans hx645_1; replace hx645_2 := (HB.out.cell (World.block_lt_of_cell? w _ hx645_2)).trans hx645_2; replace p645 := eq_true p645; replace q645 := eq_true q645))
                          repeat (go_quiet (first | (go_at_call 43; (with_reducible refine (tallystickref15_name.calls ((rd_T55 l0_1 x3_2).f0) true _ A10.out).mono ?_); rintro e w' ⟨rfl, ⟨nd, rfl⟩⟩; (try first | exact ⟨rfl, _, World.drewN_drewN _ _ _⟩ | exact ⟨rfl, _, Eq.trans (World.drewN_drewN _ _ _) (congrArg (World.drewN _) (Nat.add_assoc _ _ _))⟩); have p644 : 0 ≤ ((ji13) : Int) := of_decide_eq_true (by first | (with_reducible assumption) | assumption); have q644 : (ji13) < (l0_1.length : Int) := of_decide_eq_true (by first | (with_reducible assumption) | assumption); obtain ⟨ad644, e644, hx644_0, hx644_1, hx644_2⟩ := at_T55 HR0_1.out (ji13) p644 q644; obtain rfl : ad642 = ad644 := (by injection e644); replace hx644_0 := (HB.out.cell (World.block_lt_of_cell? w _ hx644_0)).trans hx644_0; replace hx644_1 := (HB.out.cell (World.block_lt_of_cell? w _ hx644_1)).trans hx644_1; replace hx644_2 := (HB.out.cell (World.block_lt_of_cell? w _ hx644_2)).trans hx644_2; replace p644 := eq_true p644; replace q644 := eq_true q644; have p645 : 0 ≤ (x3_2 : Int) := of_decide_eq_true (by first | (with_reducible assumption) | assumption); have q645 : x3_2 < (l0_1.length : Int) := of_decide_eq_true (by first | (with_reducible assumption) | assumption); obtain ⟨ad645, e645, hx645_0, hx645_1, hx645_2⟩ := at_T55 HR0_1.out x3_2 p645 q645; obtain rfl : ad642 = ad645 := (by injection e645); replace hx645_0 := (HB.out.cell (World.block_lt_of_cell? w _ hx645_0)).trans hx645_0; replace hx645_1 := (HB.out.cell (World.block_lt_of_cell? w _ hx645_1)).trans hx645_1; replace hx645_2 := (HB.out.cell (World.block_lt_of_cell? w _ hx645_2)).trans hx645_2; replace p645 := eq_true p645; replace q645 := eq_true q645)); try go_wp2_with (first | (go_at_call 43; (with_reducible refine (tallystickref15_name.calls ((rd_T55 l0_1 x3_2).f0) true _ A10.out).mono ?_); rintro e w' ⟨rfl, ⟨nd, rfl⟩⟩; (try first | exact ⟨rfl, _, World.drewN_drewN _ _ _⟩ | exact ⟨rfl, _, Eq.trans (World.drewN_drewN _ _ _) (congrArg (World.drewN _) (Nat.add_assoc _ _ _))⟩); have p644 : 0 ≤ ((ji13) : Int) := of_decide_eq_true (by first | (with_reducible assumption) | assumption); have q644 : (ji13) < (l0_1.length : Int) := of_decide_eq_true (by first | (with_reducible assumption) | assumption); obtain ⟨ad644, e644, hx644_0, hx644_1, hx644_2⟩ := at_T55 HR0_1.out (ji13) p644 q644; obtain rfl : ad642 = ad644 := (by injection e644); replace hx644_0 := (HB.out.cell (World.block_lt_of_cell? w _ hx644_0)).trans hx644_0; replace hx644_1 := (HB.out.cell (World.block_lt_of_cell? w _ hx644_1)).trans hx644_1; replace hx644_2 := (HB.out.cell (World.block_lt_of_cell? w _ hx644_2)).trans hx644_2; replace p644 := eq_true p644; replace q644 := eq_true q644; have p645 : 0 ≤ (x3_2 : Int) := of_decide_eq_true (by first | (with_reducible assumption) | assumption); have q645 : x3_2 < (l0_1.length : Int) := of_decide_eq_true (by first | (with_reducible assumption) | assumption); obtain ⟨ad645, e645, hx645_0, hx645_1, hx645_2⟩ := at_T55 HR0_1.out x3_2 p645 q645; obtain rfl : ad642 = ad645 := (by injection e645); replace hx645_0 := (HB.out.cell (World.block_lt_of_cell? w _ hx645_0)).trans hx645_0; replace hx645_1 := (HB.out.cell (World.block_lt_of_cell? w _ hx645_1)).trans hx645_1; replace hx645_2 := (HB.out.cell (World.block_lt_of_cell? w _ hx645_2)).trans hx645_2; replace p645 := eq_true p645; replace q645 := eq_true q645)))
                          go_roundg k2
                          case measure => have := HJ1.out; have := HK2.out; omega
                          case rel => exact ⟨(wrap64 (x3_2 + 1)), (by first | rfl | (simp; done) | (simp [*]; done)), H', ⟨by have := HJ1.out; have := HK2.out; omega⟩, ⟨by (with_reducible repeat (first | refine blk_drewN ?_ _ | refine blk_drew ?_ | refine blk_alloc ?_ _)); exact BK641.out⟩, ⟨by repeat (first | (with_reducible first | exact HB.out | apply below_alloc | apply pw_below_drewN | apply below_drew1 | refine below_set ?_ GE641.out) | exact HB.out)⟩⟩
                        · rw [if_neg c16] at H
                          have c16b0 : (Op.bytesLess (((rd_T55 l0_1 (ji13)).f0).toList) (((rd_T55 l0_1 x3_2).f0).toList)) = false := by simpa using c16
                          clear c16
                          obtain rfl := Option.some.inj H
                          have hcz18_0 : wr.cell? ⟨gb641, 0, none⟩ = some (.int .i64 a0_0) := (blk_cell BK641.out 0).trans rfl
                          have hcz18_1 : wr.cell? ⟨gb641, 1, none⟩ = some (.slice A0_1 l0_1.length c0_1) := (blk_cell BK641.out 1).trans rfl
                          have hfz18_0 := blk_frozen BK641.out 0
                          have hfz18_1 := blk_frozen BK641.out 1
                          have p642 : 0 ≤ (x3_2 : Int) := of_decide_eq_true (by first | (with_reducible assumption) | assumption)
                          have q642 : x3_2 < (l0_1.length : Int) := of_decide_eq_true (by first | (with_reducible assumption) | assumption)
                          obtain ⟨ad642, e642, hx642_0, hx642_1, hx642_2⟩ := at_T55 HR0_1.out x3_2 p642 q642
                          cases e642
                          replace hx642_0 := (HB.out.cell (World.block_lt_of_cell? w _ hx642_0)).trans hx642_0
                          replace hx642_1 := (HB.out.cell (World.block_lt_of_cell? w _ hx642_1)).trans hx642_1
                          replace hx642_2 := (HB.out.cell (World.block_lt_of_cell? w _ hx642_2)).trans hx642_2
                          replace p642 := eq_true p642
                          replace q642 := eq_true q642
                          go_wp2_with (first | (go_at_call 43; (with_reducible refine (tallystickref15_name.calls ((rd_T55 l0_1 x3_2).f0) true _ A10.out).mono ?_); rintro e w' ⟨rfl, ⟨nd, rfl⟩⟩; (try first | exact ⟨rfl, _, World.drewN_drewN _ _ _⟩ | exact ⟨rfl, _, Eq.trans (World.drewN_drewN _ _ _) (congrArg (World.drewN _) (Nat.add_assoc _ _ _))⟩); have p644 : 0 ≤ ((ji13) : Int) := of_decide_eq_true (by first | (with_reducible assumption) | assumption); have q644 : (ji13) < (l0_1.length : Int) := of_decide_eq_true (by first | (with_reducible assumption) | assumption); obtain ⟨ad644, e644, hx644_0, hx644_1, hx644_2⟩ := at_T55 HR0_1.out (ji13) p644 q644; obtain rfl : ad642 = ad644 := (by injection e644); replace hx644_0 := (HB.out.cell (World.block_lt_of_cell? w _ hx644_0)).trans hx644_0; replace hx644_1 := (HB.out.cell (World.block_lt_of_cell? w _ hx644_1)).trans hx644_1; replace hx644_2 := (HB.out.cell (World.block_lt_of_cell? w _ hx644_2)).trans hx644_2; replace p644 := eq_true p644; replace q644 := eq_true q644; have p645 : 0 ≤ (x3_2 : Int) := of_decide_eq_true (by first | (with_reducible assumption) | assumption); have q645 : x3_2 < (l0_1.length : Int) := of_decide_eq_true (by first | (with_reducible assumption) | assumption); obtain ⟨ad645, e645, hx645_0, hx645_1, hx645_2⟩ := at_T55 HR0_1.out x3_2 p645 q645; obtain rfl : ad642 = ad645 := (by injection e645); replace hx645_0 := (HB.out.cell (World.block_lt_of_cell? w _ hx645_0)).trans hx645_0; replace hx645_1 := (HB.out.cell (World.block_lt_of_cell? w _ hx645_1)).trans hx645_1; replace hx645_2 := (HB.out.cell (World.block_lt_of_cell? w _ hx645_2)).trans hx645_2; replace p645 := eq_true p645; replace q645 := eq_true q645))
                          repeat (go_quiet (first | (go_at_call 43; (with_reducible refine (tallystickref15_name.calls ((rd_T55 l0_1 x3_2).f0) true _ A10.out).mono ?_); rintro e w' ⟨rfl, ⟨nd, rfl⟩⟩; (try first | exact ⟨rfl, _, World.drewN_drewN _ _ _⟩ | exact ⟨rfl, _, Eq.trans (World.drewN_drewN _ _ _) (congrArg (World.drewN _) (Nat.add_assoc _ _ _))⟩); have p644 : 0 ≤ ((ji13) : Int) := of_decide_eq_true (by first | (with_reducible assumption) | assumption); have q644 : (ji13) < (l0_1.length : Int) := of_decide_eq_true (by first | (with_reducible assumption) | assumption); obtain ⟨ad644, e644, hx644_0, hx644_1, hx644_2⟩ := at_T55 HR0_1.out (ji13) p644 q644; obtain rfl : ad642 = ad644 := (by injection e644); replace hx644_0 := (HB.out.cell (World.block_lt_of_cell? w _ hx644_0)).trans hx644_0; replace hx644_1 := (HB.out.cell (World.block_lt_of_cell? w _ hx644_1)).trans hx644_1; replace hx644_2 := (HB.out.cell (World.block_lt_of_cell? w _ hx644_2)).trans hx644_2; replace p644 := eq_true p644; replace q644 := eq_true q644; have p645 : 0 ≤ (x3_2 : Int) := of_decide_eq_true (by first | (with_reducible assumption) | assumption); have q645 : x3_2 < (l0_1.length : Int) := of_decide_eq_true (by first | (with_reducible assumption) | assumption); obtain ⟨ad645, e645, hx645_0, hx645_1, hx645_2⟩ := at_T55 HR0_1.out x3_2 p645 q645; obtain rfl : ad642 = ad645 := (by injection e645); replace hx645_0 := (HB.out.cell (World.block_lt_of_cell? w _ hx645_0)).trans hx645_0; replace hx645_1 := (HB.out.cell (World.block_lt_of_cell? w _ hx645_1)).trans hx645_1; replace hx645_2 := (HB.out.cell (World.block_lt_of_cell? w _ hx645_2)).trans hx645_2; replace p645 := eq_true p645; replace q645 := eq_true q645)); try go_wp2_with (first | (go_at_call 43; (with_reducible refine (tallystickref15_name.calls ((rd_T55 l0_1 x3_2).f0) true _ A10.out).mono ?_); rintro e w' ⟨rfl, ⟨nd, rfl⟩⟩; (try first | exact ⟨rfl, _, World.drewN_drewN _ _ _⟩ | exact ⟨rfl, _, Eq.trans (World.drewN_drewN _ _ _) (congrArg (World.drewN _) (Nat.add_assoc _ _ _))⟩); have p644 : 0 ≤ ((ji13) : Int) := of_decide_eq_true (by first | (with_reducible assumption) | assumption); have q644 : (ji13) < (l0_1.length : Int) := of_decide_eq_true (by first | (with_reducible assumption) | assumption); obtain ⟨ad644, e644, hx644_0, hx644_1, hx644_2⟩ := at_T55 HR0_1.out (ji13) p644 q644; obtain rfl : ad642 = ad644 := (by injection e644); replace hx644_0 := (HB.out.cell (World.block_lt_of_cell? w _ hx644_0)).trans hx644_0; replace hx644_1 := (HB.out.cell (World.block_lt_of_cell? w _ hx644_1)).trans hx644_1; replace hx644_2 := (HB.out.cell (World.block_lt_of_cell? w _ hx644_2)).trans hx644_2; replace p644 := eq_true p644; replace q644 := eq_true q644; have p645 : 0 ≤ (x3_2 : Int) := of_decide_eq_true (by first | (with_reducible assumption) | assumption); have q645 : x3_2 < (l0_1.length : Int) := of_decide_eq_true (by first | (with_reducible assumption) | assumption); obtain ⟨ad645, e645, hx645_0, hx645_1, hx645_2⟩ := at_T55 HR0_1.out x3_2 p645 q645; obtain rfl : ad642 = ad645 := (by injection e645); replace hx645_0 := (HB.out.cell (World.block_lt_of_cell? w _ hx645_0)).trans hx645_0; replace hx645_1 := (HB.out.cell (World.block_lt_of_cell? w _ hx645_1)).trans hx645_1; replace hx645_2 := (HB.out.cell (World.block_lt_of_cell? w _ hx645_2)).trans hx645_2; replace p645 := eq_true p645; replace q645 := eq_true q645)))
                          go_ret
                          exact ⟨by first | rfl | (simp [errW_none, errW_some] <;> rfl) | (simp only [← hji13]; first | rfl | (simp [errW_none, errW_some] <;> rfl)) | (simp [*, errW_none, errW_some] <;> rfl), by repeat (first | (with_reducible first | exact HB.out | apply below_alloc | apply pw_below_drewN | apply below_drew1 | refine below_set ?_ GE641.out) | exact HB.out)⟩
                      · rw [if_neg c15] at H
                        exact absurd H (by simp)
                    · rw [if_neg c14] at H
                      exact absurd H (by simp)
                  · rw [if_neg c12] at H
                    have c12b0 : decide (0 < x3_2) = false := decide_eq_false c12
                    clear c12
                    have H' := Aside0.mk H
                    clear H
                    have hcz19_0 : wr.cell? ⟨gb641, 0, none⟩ = some (.int .i64 a0_0) := (blk_cell BK641.out 0).trans rfl
                    have hcz19_1 : wr.cell? ⟨gb641, 1, none⟩ = some (.slice A0_1 l0_1.length c0_1) := (blk_cell BK641.out 1).trans rfl
                    have hfz19_0 := blk_frozen BK641.out 0
                    have hfz19_1 := blk_frozen BK641.out 1
                    have p642 : 0 ≤ (x3_2 : Int) := of_decide_eq_true (by first | (with_reducible assumption) | assumption)
                    have q642 : x3_2 < (l0_1.length : Int) := of_decide_eq_true (by first | (with_reducible assumption) | assumption)
                    obtain ⟨ad642, e642, hx642_0, hx642_1, hx642_2⟩ := at_T55 HR0_1.out x3_2 p642 q642
                    cases e642
                    replace hx642_0 := (HB.out.cell (World.block_lt_of_cell? w _ hx642_0)).trans hx642_0
                    replace hx642_1 := (HB.out.cell (World.block_lt_of_cell? w _ hx642_1)).trans hx642_1
                    replace hx642_2 := (HB.out.cell (World.block_lt_of_cell? w _ hx642_2)).trans hx642_2
                    replace p642 := eq_true p642
                    replace q642 := eq_true q642
                    go_wp2_with (first | (go_at_call 43; (with_reducible refine (tallystickref15_name.calls ((rd_T55 l0_1 x3_2).f0) true _ A10.out).mono ?_); rintro e w' ⟨rfl, ⟨nd, rfl⟩⟩; (try first | exact ⟨rfl, _, World.drewN_drewN _ _ _⟩ | exact ⟨rfl, _, Eq.trans (World.drewN_drewN _ _ _) (congrArg (World.drewN _) (Nat.add_assoc _ _ _))⟩)))
                    repeat (go_quiet (first | (go_at_call 43; (with_reducible refine (tallystickref15_name.calls ((rd_T55 l0_1 x3_2).f0) true _ A10.out).mono ?_); rintro e w' ⟨rfl, ⟨nd, rfl⟩⟩; (try first | exact ⟨rfl, _, World.drewN_drewN _ _ _⟩ | exact ⟨rfl, _, Eq.trans (World.drewN_drewN _ _ _) (congrArg (World.drewN _) (Nat.add_assoc _ _ _))⟩))); try go_wp2_with (first | (go_at_call 43; (with_reducible refine (tallystickref15_name.calls ((rd_T55 l0_1 x3_2).f0) true _ A10.out).mono ?_); rintro e w' ⟨rfl, ⟨nd, rfl⟩⟩; (try first | exact ⟨rfl, _, World.drewN_drewN _ _ _⟩ | exact ⟨rfl, _, Eq.trans (World.drewN_drewN _ _ _) (congrArg (World.drewN _) (Nat.add_assoc _ _ _))⟩))))
                    go_roundg k2
                    case measure => have := HJ1.out; have := HK2.out; omega
                    case rel => exact ⟨(wrap64 (x3_2 + 1)), (by first | rfl | (simp; done) | (simp [*]; done)), H', ⟨by have := HJ1.out; have := HK2.out; omega⟩, ⟨by (with_reducible repeat (first | refine blk_drewN ?_ _ | refine blk_drew ?_ | refine blk_alloc ?_ _)); exact BK641.out⟩, ⟨by repeat (first | (with_reducible first | exact HB.out | apply below_alloc | apply pw_below_drewN | apply below_drew1 | refine below_set ?_ GE641.out) | exact HB.out)⟩⟩
                · replace c11 := Bool.eq_false_iff.mpr c11
                  subst c11
                  have H1 : (some false) = some r := by rw [if_neg (show ¬ (false = true) by decide)] at H; exact H
                  clear H
                  have H := H1
                  clear H1
                  obtain rfl := Option.some.inj H
                  have hcz20_0 : wr.cell? ⟨gb641, 0, none⟩ = some (.int .i64 a0_0) := (blk_cell BK641.out 0).trans rfl
                  have hcz20_1 : wr.cell? ⟨gb641, 1, none⟩ = some (.slice A0_1 l0_1.length c0_1) := (blk_cell BK641.out 1).trans rfl
                  have hfz20_0 := blk_frozen BK641.out 0
                  have hfz20_1 := blk_frozen BK641.out 1
                  have p642 : 0 ≤ (x3_2 : Int) := of_decide_eq_true (by first | (with_reducible assumption) | assumption)
                  have q642 : x3_2 < (l0_1.length : Int) := of_decide_eq_true (by first | (with_reducible assumption) | assumption)
                  obtain ⟨ad642, e642, hx642_0, hx642_1, hx642_2⟩ := at_T55 HR0_1.out x3_2 p642 q642
                  cases e642
                  replace hx642_0 := (HB.out.cell (World.block_lt_of_cell? w _ hx642_0)).trans hx642_0
                  replace hx642_1 := (HB.out.cell (World.block_lt_of_cell? w _ hx642_1)).trans hx642_1
                  replace hx642_2 := (HB.out.cell (World.block_lt_of_cell? w _ hx642_2)).trans hx642_2
                  replace p642 := eq_true p642
                  replace q642 := eq_true q642
                  go_wp2_with (first | (go_at_call 43; (with_reducible refine (tallystickref15_name.calls ((rd_T55 l0_1 x3_2).f0) false _ A10.out).mono ?_); rintro e w' ⟨rfl, ⟨nd, rfl⟩⟩; (try first | exact ⟨rfl, _, World.drewN_drewN _ _ _⟩ | exact ⟨rfl, _, Eq.trans (World.drewN_drewN _ _ _) (congrArg (World.drewN _) (Nat.add_assoc _ _ _))⟩)))
                  repeat (go_quiet (first | (go_at_call 43; (with_reducible refine (tallystickref15_name.calls ((rd_T55 l0_1 x3_2).f0) false _ A10.out).mono ?_); rintro e w' ⟨rfl, ⟨nd, rfl⟩⟩; (try first | exact ⟨rfl, _, World.drewN_drewN _ _ _⟩ | exact ⟨rfl, _, Eq.trans (World.drewN_drewN _ _ _) (congrArg (World.drewN _) (Nat.add_assoc _ _ _))⟩))); try go_wp2_with (first | (go_at_call 43; (with_reducible refine (tallystickref15_name.calls ((rd_T55 l0_1 x3_2).f0) false _ A10.out).mono ?_); rintro e w' ⟨rfl, ⟨nd, rfl⟩⟩; (try first | exact ⟨rfl, _, World.drewN_drewN _ _ _⟩ | exact ⟨rfl, _, Eq.trans (World.drewN_drewN _ _ _) (congrArg (World.drewN _) (Nat.add_assoc _ _ _))⟩))))
                  go_ret
                  exact ⟨by first | rfl | (simp [errW_none, errW_some] <;> rfl) | (simp [*, errW_none, errW_some] <;> rfl), by repeat (first | (with_reducible first | exact HB.out | apply below_alloc | apply pw_below_drewN | apply below_drew1 | refine below_set ?_ GE641.out) | exact HB.out)⟩
              · rw [if_neg c9] at H
                exact absurd H (by simp)
            · rw [if_neg c8] at H
              have c8b0 : decide (x3_2 < (l0_1.length : Int)) = false := decide_eq_false c8
              clear c8
              obtain rfl := Option.some.inj H
              have hcz21_0 : wr.cell? ⟨gb641, 0, none⟩ = some (.int .i64 a0_0) := (blk_cell BK641.out 0).trans rfl
              have hcz21_1 : wr.cell? ⟨gb641, 1, none⟩ = some (.slice A0_1 l0_1.length c0_1) := (blk_cell BK641.out 1).trans rfl
              have hfz21_0 := blk_frozen BK641.out 0
              have hfz21_1 := blk_frozen BK641.out 1
              go_wp2
              repeat (go_quiet (fail); try go_wp2)
              go_ret
              exact ⟨by first | rfl | (simp [errW_none, errW_some] <;> rfl) | (simp [*, errW_none, errW_some] <;> rfl), by repeat (first | (with_reducible first | exact HB.out | apply below_alloc | apply pw_below_drewN | apply below_drew1 | refine below_set ?_ GE641.out) | exact HB.out)⟩

end Go.Proofs.Ytbpobnlkfpjijaa.Pr
