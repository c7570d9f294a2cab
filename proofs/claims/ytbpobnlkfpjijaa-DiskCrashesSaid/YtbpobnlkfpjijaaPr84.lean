-- Laid by a program (wip/pr.sh), out of the translation.
import Derived.Test.YtbpobnlkfpjijaaPr0
import Derived.Test.YtbpobnlkfpjijaaPr83
namespace Go.Proofs.Ytbpobnlkfpjijaa.Pr
open Go.RowKit Go.Proofs.YtbpobnlkfpjijaaW.PrintWords Go.Proofs.YtbpobnlkfpjijaaW.PrintLast Go.Proofs.YtbpobnlkfpjijaaW.PrintMore
attribute [local go_sem] max2_int min2_int max_two min_two max_three min_three max_four min_four   -- for this text's walks alone
set_option linter.unusedVariables false
set_option linter.unusedSimpArgs false

attribute [local go_sem] Go.Proofs.Aid.cell_set_row
/-! ### tallystickref15_kept: function 46 -/
mutual
def tallystickref15_kept.j0 : Nat → Int → Int → ByteArray → ByteArray → ByteArray → Option (ByteArray)
  | 0, _, _, _, _, _ => none
  | k + 1, x1, x5, x651000, x651001, x651002 => tallystickref15_kept.l0 k x1 x5 ([] : List Int) 0 x651000 x651001 x651002
def tallystickref15_kept.l0 : Nat → Int → Int → List Int → Int → ByteArray → ByteArray → ByteArray → Option (ByteArray)
  | 0, _, _, _, _, _, _, _ => none
  | k + 1, x1, x5, x7, x8, x651000, x651001, x651002 => if x8 < x5 then ((tallystickref15_bit.f k x1 (wrap64 (1 + (Int.tmod (wrap64 (Int.tdiv x8 16)) 63)))).bind fun t652 => (if t652 = true then (if x8 < (x651001.size : Int) then (if 0 ≤ x8 then (if x7.length < 140737488355328 then (tallystickref15_kept.l0 k x1 x5 (x7 ++ [bt x651001 x8]) (wrap64 (x8 + 1)) x651000 x651001 x651002) else (none)) else (none)) else (if x7.length < 140737488355328 then (tallystickref15_kept.l0 k x1 x5 (x7 ++ [0]) (wrap64 (x8 + 1)) x651000 x651001 x651002) else (none))) else (if x8 < (x651002.size : Int) then (if 0 ≤ x8 then (if x7.length < 140737488355328 then (tallystickref15_kept.l0 k x1 x5 (x7 ++ [bt x651002 x8]) (wrap64 (x8 + 1)) x651000 x651001 x651002) else (none)) else (none)) else (if x7.length < 140737488355328 then (tallystickref15_kept.l0 k x1 x5 (x7 ++ [0]) (wrap64 (x8 + 1)) x651000 x651001 x651002) else (none))))) else (some (strOfNums x7))
end
def tallystickref15_kept.f (k : Nat) (a0_0 : ByteArray) (a0_1 : ByteArray) (a0_2 : ByteArray) (a1 : Int) : Option (ByteArray) := if a0_1.toList = a0_2.toList then (some a0_1) else ((tallystickref15_bit.f k a1 0).bind fun t651 => (if t651 = true then (tallystickref15_kept.j0 k a1 (a0_1.size : Int) a0_0 a0_1 a0_2) else (tallystickref15_kept.j0 k a1 (a0_2.size : Int) a0_0 a0_1 a0_2)))
theorem tallystickref15_kept.mono_l : ∀ k, (∀ y0 y1 y2 y3 y4, LeO (tallystickref15_kept.j0 k y0 y1 y2 y3 y4) (tallystickref15_kept.j0 (k + 1) y0 y1 y2 y3 y4)) ∧ (∀ y0 y1 y2 y3 y4 y5 y6, LeO (tallystickref15_kept.l0 k y0 y1 y2 y3 y4 y5 y6) (tallystickref15_kept.l0 (k + 1) y0 y1 y2 y3 y4 y5 y6))
  | 0 => ⟨fun _ _ _ _ _ r h => by simp [tallystickref15_kept.j0] at h, fun _ _ _ _ _ _ _ r h => by simp [tallystickref15_kept.l0] at h⟩
  | k + 1 => by
    obtain ⟨ih0, ih1⟩ := tallystickref15_kept.mono_l k
    refine ⟨?_, ?_⟩
    · intro y0 y1 y2 y3 y4
      unfold tallystickref15_kept.j0
      repeat' first
      | (with_reducible exact ih0 _ _ _ _ _)
      | (with_reducible exact ih1 _ _ _ _ _ _ _)
      | (with_reducible exact tallystickref15_bit.mono _ _ _)
      | (with_reducible exact LeO.refl _)
      | (with_reducible exact LeO.none _)
      | (with_reducible refine LeO.ite ?_ ?_)
      | (with_reducible refine LeO.bind ?_ (fun _ => ?_))
      | exact ih0 _ _ _ _ _
      | exact ih1 _ _ _ _ _ _ _
      | exact tallystickref15_bit.mono _ _ _
      | exact LeO.none _
      | refine LeO.ite ?_ ?_
      | refine LeO.bind ?_ (fun _ => ?_)
    · intro y0 y1 y2 y3 y4 y5 y6
      unfold tallystickref15_kept.l0
      repeat' first
      | (with_reducible exact ih0 _ _ _ _ _)
      | (with_reducible exact ih1 _ _ _ _ _ _ _)
      | (with_reducible exact tallystickref15_bit.mono _ _ _)
      | (with_reducible exact LeO.refl _)
      | (with_reducible exact LeO.none _)
      | (with_reducible refine LeO.ite ?_ ?_)
      | (with_reducible refine LeO.bind ?_ (fun _ => ?_))
      | exact ih0 _ _ _ _ _
      | exact ih1 _ _ _ _ _ _ _
      | exact tallystickref15_bit.mono _ _ _
      | exact LeO.none _
      | refine LeO.ite ?_ ?_
      | refine LeO.bind ?_ (fun _ => ?_)
theorem tallystickref15_kept.mono : ∀ a0 a1 a2 a3 k, LeO (tallystickref15_kept.f k a0 a1 a2 a3) (tallystickref15_kept.f (k + 1) a0 a1 a2 a3) := by
  intro a0 a1 a2 a3 k
  obtain ⟨ih0, ih1⟩ := tallystickref15_kept.mono_l k
  unfold tallystickref15_kept.f
  repeat' first
      | (with_reducible exact ih0 _ _ _ _ _)
      | (with_reducible exact ih1 _ _ _ _ _ _ _)
      | (with_reducible exact tallystickref15_bit.mono _ _ _)
      | (with_reducible exact LeO.refl _)
      | (with_reducible exact LeO.none _)
      | (with_reducible refine LeO.ite ?_ ?_)
      | (with_reducible refine LeO.bind ?_ (fun _ => ?_))
      | exact ih0 _ _ _ _ _
      | exact ih1 _ _ _ _ _ _ _
      | exact tallystickref15_bit.mono _ _ _
      | exact LeO.none _
      | refine LeO.ite ?_ ?_
      | refine LeO.bind ?_ (fun _ => ?_)
set_option maxHeartbeats 8000000 in
set_option maxRecDepth 100000 in
theorem tallystickref15_kept.calls (k : Nat) (a0_0 : ByteArray) (a0_1 : ByteArray) (a0_2 : ByteArray) (a1 : Int) (r : ByteArray) (w : World) (h : tallystickref15_kept.f k a0_0 a0_1 a0_2 a1 = some r) :
    Calls Try.prog 46 #[.agg #[.string a0_0, .string a0_1, .string a0_2], .int .u64 a1] w fun e w' => e = .returned (.string r) ∧ Below w.heap.size w w' := by
  have hu55 := Try.underlying55
  have HB := Aside0.mk (Below.refl w.heap.size w)
  have H : (if a0_1.toList = a0_2.toList then (some a0_1) else ((tallystickref15_bit.f k a1 0).bind fun t651 => (if t651 = true then (tallystickref15_kept.j0 k a1 (a0_1.size : Int) a0_0 a0_1 a0_2) else (tallystickref15_kept.j0 k a1 (a0_2.size : Int) a0_0 a0_1 a0_2)))) = some r := h
  clear h
  by_cases c3 : a0_1.toList = a0_2.toList
  · rw [if_pos c3] at H
    have c3b0 : (a0_1.toList == a0_2.toList) = true := beq_iff_eq.mpr c3
    have c3b1 : (a0_1.toList != a0_2.toList) = false := bne_eq_false_iff_eq.mpr c3
    clear c3
    obtain rfl := Option.some.inj H
    go_enter Try.func46, Try.ntmps46
    go_wp2_with (first | ((with_reducible refine gate_dst (N := 2) rfl ?_); refine box_event ?hg (N := 2) ?hd (cs := #[.string a0_0, .string a0_1, .string a0_2]) (t := 55) ?hr ?_; (case hd => rfl); (case hg => rfl); (case hr => first | (go_simp; done) | (go_simp; rfl)); intro gb650 hg w4 hbox hb; have n0_ := Aside0.mk (below_step (by repeat (first | (with_reducible first | exact HB.out | apply below_alloc | apply pw_below_drewN | apply below_drew1) | exact HB.out)) hb); have n1_ := Aside0.mk (hbox); have n2_ := Aside0.mk ((by rw [hg]; exact (below_size (by repeat (first | (with_reducible first | exact HB.out | apply below_alloc | apply pw_below_drewN | apply below_drew1) | exact HB.out))) : w.heap.size ≤ gb650)); have n3_ := Aside0.mk ((by rw [hg]; exact (below_size (by repeat (first | (with_reducible first | exact HB.out | apply below_alloc | apply pw_below_drewN | apply below_drew1) | exact HB.out))) : w.heap.size ≤ gb650)); clear HB; have HB := n0_; have BK650 := n1_; have GW650 := n2_; have GE650 := n3_; clear n0_ n1_ n2_ n3_; clear hb hbox hg; have hcz5_0 : w4.cell? ⟨gb650, 0, none⟩ = some (.string a0_0) := (blk_cell BK650.out 0).trans rfl; have hcz5_1 : w4.cell? ⟨gb650, 1, none⟩ = some (.string a0_1) := (blk_cell BK650.out 1).trans rfl; have hcz5_2 : w4.cell? ⟨gb650, 2, none⟩ = some (.string a0_2) := (blk_cell BK650.out 2).trans rfl; have hfz5_0 := blk_frozen BK650.out 0; have hfz5_1 := blk_frozen BK650.out 1; have hfz5_2 := blk_frozen BK650.out 2))
    go_ret
    exact ⟨by first | rfl | (simp [errW_none, errW_some] <;> rfl) | (simp [*, errW_none, errW_some] <;> rfl), by repeat (first | (with_reducible first | exact HB.out | apply below_alloc | apply pw_below_drewN | apply below_drew1 | refine below_set ?_ GE650.out) | exact HB.out)⟩
  · rw [if_neg c3] at H
    have c3b0 : (a0_1.toList == a0_2.toList) = false := beq_eq_false_iff_ne.mpr c3
    have c3b1 : (a0_1.toList != a0_2.toList) = true := bne_iff_ne.mpr c3
    replace H := Option.bind_eq_some_iff.mp H
    obtain ⟨t651, A60, H⟩ := H
    replace H : (if t651 = true then (tallystickref15_kept.j0 k a1 (a0_1.size : Int) a0_0 a0_1 a0_2) else (tallystickref15_kept.j0 k a1 (a0_2.size : Int) a0_0 a0_1 a0_2)) = some r := H
    have A6 := Aside0.mk A60
    clear A60
    have HC7 := Aside0.mk H
    clear H
    go_enter Try.func46, Try.ntmps46
    go_upto_if 23 with (first | ((with_reducible refine gate_dst (N := 2) rfl ?_); refine box_event ?hg (N := 2) ?hd (cs := #[.string a0_0, .string a0_1, .string a0_2]) (t := 55) ?hr ?_; (case hd => rfl); (case hg => rfl); (case hr => first | (go_simp; done) | (go_simp; rfl)); intro gb650 hg w8 hbox hb; have n0_ := Aside0.mk (below_step (by repeat (first | (with_reducible first | exact HB.out | apply below_alloc | apply pw_below_drewN | apply below_drew1) | exact HB.out)) hb); have n1_ := Aside0.mk (hbox); have n2_ := Aside0.mk ((by rw [hg]; exact (below_size (by repeat (first | (with_reducible first | exact HB.out | apply below_alloc | apply pw_below_drewN | apply below_drew1) | exact HB.out))) : w.heap.size ≤ gb650)); have n3_ := Aside0.mk ((by rw [hg]; exact (below_size (by repeat (first | (with_reducible first | exact HB.out | apply below_alloc | apply pw_below_drewN | apply below_drew1) | exact HB.out))) : w.heap.size ≤ gb650)); clear HB; have HB := n0_; have BK650 := n1_; have GW650 := n2_; have GE650 := n3_; clear n0_ n1_ n2_ n3_; clear hb hbox hg; have hcz9_0 : w8.cell? ⟨gb650, 0, none⟩ = some (.string a0_0) := (blk_cell BK650.out 0).trans rfl; have hcz9_1 : w8.cell? ⟨gb650, 1, none⟩ = some (.string a0_1) := (blk_cell BK650.out 1).trans rfl; have hcz9_2 : w8.cell? ⟨gb650, 2, none⟩ = some (.string a0_2) := (blk_cell BK650.out 2).trans rfl; have hfz9_0 := blk_frozen BK650.out 0; have hfz9_1 := blk_frozen BK650.out 1; have hfz9_2 := blk_frozen BK650.out 2) | ((with_reducible refine gate_callee (f := 64) rfl ?_); refine goesL_ (some 22) rfl rfl Try.func64 (by kernel_rfl) rfl #[.int .u64 a1, .int .i64 0] rfl (by (try simp only [List.map_toArray, List.map_cons, List.map_nil]); first | done | rfl | (simp only [List.length_drop, List.length_take]; rfl)) ?_; (with_reducible refine (tallystickref15_bit.calls k a1 0 t651 _ A6.out).mono ?_); rintro e w' ⟨rfl, ⟨nd, rfl⟩⟩; refine ⟨_, rfl, ?_⟩))
    (try simp only [Act.put, List.setIfInBounds_toArray, List.set_cons_zero, List.set_cons_succ])
    go_cut [5] (fun v5 wc => ∃ (kq : Nat) (x5_6 : Int), v5 = .int .i64 x5_6 ∧ Aside0 (tallystickref15_kept.j0 kq a1 x5_6 a0_0 a0_1 a0_2 = some r) ∧ Aside0 (kq ≤ k) ∧ Aside0 (wc.heap[gb650]? = some (.cells #[.string a0_0, .string a0_1, .string a0_2] 55 (0, 0))) ∧ Aside0 (Below w.heap.size w wc))
    case first =>
      have H := HC7.out
      clear HC7
      by_cases c10 : t651 = true
      · subst c10
        have H1 : (tallystickref15_kept.j0 k a1 (a0_1.size : Int) a0_0 a0_1 a0_2) = some r := by rw [if_pos rfl] at H; exact H
        clear H
        have H := H1
        clear H1
        have H' := Aside0.mk H
        clear H
        have hcz11_0 : w8.cell? ⟨gb650, 0, none⟩ = some (.string a0_0) := (blk_cell BK650.out 0).trans rfl
        have hcz11_1 : w8.cell? ⟨gb650, 1, none⟩ = some (.string a0_1) := (blk_cell BK650.out 1).trans rfl
        have hcz11_2 : w8.cell? ⟨gb650, 2, none⟩ = some (.string a0_2) := (blk_cell BK650.out 2).trans rfl
        have hfz11_0 := blk_frozen BK650.out 0
        have hfz11_1 := blk_frozen BK650.out 1
        have hfz11_2 := blk_frozen BK650.out 2
        go_wp2
        go_meet
        case rel => exact ⟨_, ((a0_1.size : Int)), (by first | rfl | (simp; done) | (simp [*]; done)), H', ⟨by first | omega | exact Nat.le_refl _⟩, ⟨by (with_reducible repeat (first | refine blk_drewN ?_ _ | refine blk_drew ?_ | refine blk_alloc ?_ _)); exact BK650.out⟩, ⟨by repeat (first | (with_reducible first | exact HB.out | apply below_alloc | apply pw_below_drewN | apply below_drew1 | refine below_set ?_ GE650.out) | exact HB.out)⟩⟩
      · replace c10 := Bool.eq_false_iff.mpr c10
        subst c10
        have H1 : (tallystickref15_kept.j0 k a1 (a0_2.size : Int) a0_0 a0_1 a0_2) = some r := by rw [if_neg (show ¬ (false = true) by decide)] at H; exact H
        clear H
        have H := H1
        clear H1
        have H' := Aside0.mk H
        clear H
        go_wp2
        go_meet
        case rel => exact ⟨_, ((a0_2.size : Int)), (by first | rfl | (simp; done) | (simp [*]; done)), H', ⟨by first | omega | exact Nat.le_refl _⟩, ⟨by (with_reducible repeat (first | refine blk_drewN ?_ _ | refine blk_drew ?_ | refine blk_alloc ?_ _)); exact BK650.out⟩, ⟨by repeat (first | (with_reducible first | exact HB.out | apply below_alloc | apply pw_below_drewN | apply below_drew1 | refine below_set ?_ GE650.out) | exact HB.out)⟩⟩
    case rest =>
      clear HC7
      try clear c1
      try clear p2
      try clear c3
      try clear c3b0
      try clear c3b1
      try clear c4
      try clear c6
      try clear c10
      try clear hcz11_0
      try clear hcz11_1
      try clear hcz11_2
      try clear hcz5_0
      try clear hcz5_1
      try clear hcz5_2
      try clear hcz9_0
      try clear hcz9_1
      try clear hcz9_2
      try clear hfz11_0
      try clear hfz11_1
      try clear hfz11_2
      try clear hfz5_0
      try clear hfz5_1
      try clear hfz5_2
      try clear hfz9_0
      try clear hfz9_1
      try clear hfz9_2
      obtain ⟨kq, x5_6, rfl, HA, HJ6, BK650, HB⟩ := hcut
      cases kq with
      | zero => exact absurd HA.out (by simp [tallystickref15_kept.j0])
      | succ kj6 =>
        have H := HA.out
        clear HA
        simp only [tallystickref15_kept.j0] at H
        have H' := Aside0.mk H
        clear H
        go_wp2
        go_loopg [7, 8] kj6 (fun kq v7 v8 w' => ∃ (x7_2 : List Int) (x8_2 : Int), v8 = .int .i64 x8_2 ∧ Aside0 (tallystickref15_kept.l0 kq a1 x5_6 x7_2 x8_2 a0_0 a0_1 a0_2 = some r) ∧ Aside0 (kq ≤ kj6) ∧ Aside0 (Kd.R (Kd.int .u8) 5 w' w.heap.size (fun _ => True) v7 x7_2) ∧ Aside0 (w'.heap[gb650]? = some (.cells #[.string a0_0, .string a0_1, .string a0_2] 55 (0, 0))) ∧ Aside0 (Below w.heap.size w w'))
        case atStart => exact ⟨(([] : List Int)), (0), (by first | rfl | (simp; done) | (simp [*]; done)), H', ⟨Nat.le_refl _⟩, ⟨by first | exact Kd.R_nil _ _ _ _ _ | exact Kd.N_nil _ _ _ _ _ | exact Kd.V_nil _ _ _ _ _ | exact Kd.Q_nil _ _ _ _ _ | exact Kd.S_nil _ _ _ _ _⟩, ⟨by (with_reducible repeat (first | refine blk_drewN ?_ _ | refine blk_drew ?_ | refine blk_alloc ?_ _)); exact BK650.out⟩, ⟨by repeat (first | (with_reducible first | exact HB.out | apply below_alloc | apply pw_below_drewN | apply below_drew1 | refine below_set ?_ GE650.out) | exact HB.out)⟩⟩
        case round =>
          clear H'
          try clear c1
          try clear p2
          try clear c3
          try clear c3b0
          try clear c3b1
          try clear c4
          try clear c6
          try clear c10
          try clear hcz11_0
          try clear hcz11_1
          try clear hcz11_2
          try clear hcz5_0
          try clear hcz5_1
          try clear hcz5_2
          try clear hcz9_0
          try clear hcz9_1
          try clear hcz9_2
          try clear hfz11_0
          try clear hfz11_1
          try clear hfz11_2
          try clear hfz5_0
          try clear hfz5_1
          try clear hfz5_2
          try clear hfz9_0
          try clear hfz9_1
          try clear hfz9_2
          try clear p2
          obtain ⟨x7_2, x8_2, rfl, HA, HK2, HO_7, BK650, HB⟩ := hrel
          cases gk with
          | zero => exact absurd HA.out (by simp [tallystickref15_kept.l0])
          | succ k2 =>
            have H := HA.out
            clear HA
            simp only [tallystickref15_kept.l0] at H
            by_cases c12 : x8_2 < x5_6
            · rw [if_pos c12] at H
              have c12b0 : decide (x8_2 < x5_6) = true := decide_eq_true c12
              clear c12
              replace H := Option.bind_eq_some_iff.mp H
              obtain ⟨t652, A130, H⟩ := H
              replace H : (if t652 = true then (if x8_2 < (a0_1.size : Int) then (if 0 ≤ x8_2 then (if x7_2.length < 140737488355328 then (tallystickref15_kept.l0 k2 a1 x5_6 (x7_2 ++ [bt a0_1 x8_2]) (wrap64 (x8_2 + 1)) a0_0 a0_1 a0_2) else (none)) else (none)) else (if x7_2.length < 140737488355328 then (tallystickref15_kept.l0 k2 a1 x5_6 (x7_2 ++ [0]) (wrap64 (x8_2 + 1)) a0_0 a0_1 a0_2) else (none))) else (if x8_2 < (a0_2.size : Int) then (if 0 ≤ x8_2 then (if x7_2.length < 140737488355328 then (tallystickref15_kept.l0 k2 a1 x5_6 (x7_2 ++ [bt a0_2 x8_2]) (wrap64 (x8_2 + 1)) a0_0 a0_1 a0_2) else (none)) else (none)) else (if x7_2.length < 140737488355328 then (tallystickref15_kept.l0 k2 a1 x5_6 (x7_2 ++ [0]) (wrap64 (x8_2 + 1)) a0_0 a0_1 a0_2) else (none)))) = some r := H
              have A13 := Aside0.mk A130
              clear A130
              by_cases c14 : t652 = true
              · subst c14
                have H1 : (if x8_2 < (a0_1.size : Int) then (if 0 ≤ x8_2 then (if x7_2.length < 140737488355328 then (tallystickref15_kept.l0 k2 a1 x5_6 (x7_2 ++ [bt a0_1 x8_2]) (wrap64 (x8_2 + 1)) a0_0 a0_1 a0_2) else (none)) else (none)) else (if x7_2.length < 140737488355328 then (tallystickref15_kept.l0 k2 a1 x5_6 (x7_2 ++ [0]) (wrap64 (x8_2 + 1)) a0_0 a0_1 a0_2) else (none))) = some r := by rw [if_pos rfl] at H; exact H
                clear H
                have H := H1
                clear H1
                by_cases c15 : x8_2 < (a0_1.size : Int)
                · rw [if_pos c15] at H
                  have c15b0 : decide (x8_2 < (a0_1.size : Int)) = true := decide_eq_true c15
                  clear c15
                  by_cases c16 : 0 ≤ x8_2
                  · rw [if_pos c16] at H
                    have c16b0 : decide (0 ≤ x8_2) = true := decide_eq_true c16
                    clear c16
                    by_cases c18 : x7_2.length < 140737488355328
                    · rw [if_pos c18] at H
                      have LMc18 := Aside0.mk c18
                      clear c18
                      obtain ⟨y653, hy653⟩ : ∃ y_ : List Int, y_ = (x7_2 ++ [bt a0_1 x8_2]) := ⟨_, rfl⟩
                      replace H : (tallystickref15_kept.l0 k2 a1 x5_6 y653 (wrap64 (x8_2 + 1)) a0_0 a0_1 a0_2) = some r := by first | (rw [hy653]; with_reducible exact H) | (have H2_ := (Option.bind_some _ _).symm.trans H; rw [hy653]; with_reducible exact H2_) | (have H2_ := (Option.bind_some _ _).symm.trans H; with_reducible exact H2_) | with_reducible exact H | (rw [hy653]; exact H) | exact H
                      have Ny653 := Aside0.mk hy653
                      clear hy653
                      have H' := Aside0.mk H
                      clear H
                      have hcz19_0 : wr.cell? ⟨gb650, 0, none⟩ = some (.string a0_0) := (blk_cell BK650.out 0).trans rfl
                      have hcz19_1 : wr.cell? ⟨gb650, 1, none⟩ = some (.string a0_1) := (blk_cell BK650.out 1).trans rfl
                      have hcz19_2 : wr.cell? ⟨gb650, 2, none⟩ = some (.string a0_2) := (blk_cell BK650.out 2).trans rfl
                      have hfz19_0 := blk_frozen BK650.out 0
                      have hfz19_1 := blk_frozen BK650.out 1
                      have hfz19_2 := blk_frozen BK650.out 2
                      go_wp2_with (first | ((with_reducible refine gate_callee (f := 64) rfl ?_); refine goesL_ (some 39) rfl rfl Try.func64 (by kernel_rfl) rfl #[.int .u64 a1, .int .i64 (wrap64 (1 + (Int.tmod (wrap64 (Int.tdiv x8_2 16)) 63)))] rfl (by (try simp only [List.map_toArray, List.map_cons, List.map_nil]); first | done | rfl | (simp only [List.length_drop, List.length_take]; rfl)) ?_; (with_reducible refine (tallystickref15_bit.calls k2 a1 (wrap64 (1 + (Int.tmod (wrap64 (Int.tdiv x8_2 16)) 63))) true _ A13.out).mono ?_); rintro e w' ⟨rfl, ⟨nd, rfl⟩⟩; refine ⟨_, rfl, ?_⟩; have p17 : 0 ≤ (x8_2 : Int) := of_decide_eq_true (by first | (with_reducible assumption) | assumption); have q17 : x8_2 < (a0_1.size : Int) := of_decide_eq_true (by first | (with_reducible assumption) | assumption); have hx17 := bt_at a0_1 x8_2; replace p17 := eq_true p17; replace q17 := eq_true q17) | ((with_reducible refine gate_builtin (b := .append) (xs := #[.tmp 47, .tmp 51]) rfl ?_); at_builtin; refine Kd.R_append (Kd.int .u8) (w0 := w) w.heap.size rfl (.tmp 47) (.tmp 51) 115 5 (.int .u8 0) 1 rfl Try.underlying115 info5 rfl (by decide) (by omega) u7 x7_2 (bt a0_1 x8_2) [.int .u8 (bt a0_1 x8_2)] (fun _ => True) (fun _ => False) rfl rfl ?aP (fun _ hk => hk.elim) ?aF ?aO ?aB ?aS ?aL ?_; (case aP => exact rfl); (case aB => exact (by repeat (first | (with_reducible first | exact HB.out | apply below_alloc | apply pw_below_drewN | apply below_drew1 | refine below_set ?_ GE650.out) | exact HB.out))); (case aF => exact (fun _ _ => trivial)); (case aO => exact (by (with_reducible repeat (first | apply Kd.R_alloc | apply Kd.R_drewN | apply Kd.R_drew)); exact HO_7.out)); (case aS => exact (below_size (by repeat (first | (with_reducible first | exact HB.out | apply below_alloc | apply pw_below_drewN | apply below_drew1 | refine below_set ?_ GE650.out) | exact HB.out)))); (case aL => have := LMc18.out; omega); intro v654 w20 ho hb hg hat; rw [← Ny653.out] at ho; have n0_ := Aside0.mk (blk_grown (g := gb650) (o := .cells #[.string a0_0, .string a0_1, .string a0_2] 55 (0, 0)) (by (with_reducible repeat (first | refine blk_drewN ?_ _ | refine blk_drew ?_ | refine blk_alloc ?_ _)); exact BK650.out) hg (Kd.R_ne HO_7.out BK650.out (by decide))); have n1_ := Aside0.mk (hb); have n2_ := Aside0.mk (ho); clear BK650; clear HB; clear HO_7; have BK650 := n0_; have HB := n1_; have HO655 := n2_; clear n0_ n1_ n2_; clear ho hb hg hat))
                      go_roundg k2
                      case measure => have := HJ6.out; have := HK2.out; omega
                      case rel => exact ⟨(y653), (wrap64 (x8_2 + 1)), (by first | rfl | (simp; done) | (simp [*]; done)), H', ⟨by have := HJ6.out; have := HK2.out; omega⟩, ⟨by (with_reducible repeat (first | apply Kd.R_alloc | apply Kd.R_drewN | apply Kd.R_drew)); exact HO655.out⟩, ⟨by (with_reducible repeat (first | refine blk_drewN ?_ _ | refine blk_drew ?_ | refine blk_alloc ?_ _)); exact BK650.out⟩, ⟨by repeat (first | (with_reducible first | exact HB.out | apply below_alloc | apply pw_below_drewN | apply below_drew1 | refine below_set ?_ GE650.out) | exact HB.out)⟩⟩
                    · rw [if_neg c18] at H
                      exact absurd H (by simp)
                  · rw [if_neg c16] at H
                    exact absurd H (by simp)
                · rw [if_neg c15] at H
                  have c15b0 : decide (x8_2 < (a0_1.size : Int)) = false := decide_eq_false c15
                  clear c15
                  by_cases c21 : x7_2.length < 140737488355328
                  · rw [if_pos c21] at H
                    have LMc21 := Aside0.mk c21
                    clear c21
                    obtain ⟨y656, hy656⟩ : ∃ y_ : List Int, y_ = (x7_2 ++ [0]) := ⟨_, rfl⟩
                    replace H : (tallystickref15_kept.l0 k2 a1 x5_6 y656 (wrap64 (x8_2 + 1)) a0_0 a0_1 a0_2) = some r := by first | (rw [hy656]; with_reducible exact H) | (have H2_ := (Option.bind_some _ _).symm.trans H; rw [hy656]; with_reducible exact H2_) | (have H2_ := (Option.bind_some _ _).symm.trans H; with_reducible exact H2_) | with_reducible exact H | (rw [hy656]; exact H) | exact H
                    have Ny656 := Aside0.mk hy656
                    clear hy656
                    have H' := Aside0.mk H
                    clear H
                    have hcz22_0 : wr.cell? ⟨gb650, 0, none⟩ = some (.string a0_0) := (blk_cell BK650.out 0).trans rfl
                    have hcz22_1 : wr.cell? ⟨gb650, 1, none⟩ = some (.string a0_1) := (blk_cell BK650.out 1).trans rfl
                    have hcz22_2 : wr.cell? ⟨gb650, 2, none⟩ = some (.string a0_2) := (blk_cell BK650.out 2).trans rfl
                    have hfz22_0 := blk_frozen BK650.out 0
                    have hfz22_1 := blk_frozen BK650.out 1
                    have hfz22_2 := blk_frozen BK650.out 2
                    go_wp2_with (first | ((with_reducible refine gate_callee (f := 64) rfl ?_); refine goesL_ (some 39) rfl rfl Try.func64 (by kernel_rfl) rfl #[.int .u64 a1, .int .i64 (wrap64 (1 + (Int.tmod (wrap64 (Int.tdiv x8_2 16)) 63)))] rfl (by (try simp only [List.map_toArray, List.map_cons, List.map_nil]); first | done | rfl | (simp only [List.length_drop, List.length_take]; rfl)) ?_; (with_reducible refine (tallystickref15_bit.calls k2 a1 (wrap64 (1 + (Int.tmod (wrap64 (Int.tdiv x8_2 16)) 63))) true _ A13.out).mono ?_); rintro e w' ⟨rfl, ⟨nd, rfl⟩⟩; refine ⟨_, rfl, ?_⟩) | ((with_reducible refine gate_builtin (b := .append) (xs := #[.tmp 53, .tmp 54]) rfl ?_); at_builtin; refine Kd.R_append (Kd.int .u8) (w0 := w) w.heap.size rfl (.tmp 53) (.tmp 54) 115 5 (.int .u8 0) 1 rfl Try.underlying115 info5 rfl (by decide) (by omega) u7 x7_2 0 [.int .u8 0] (fun _ => True) (fun _ => False) rfl rfl ?aP (fun _ hk => hk.elim) ?aF ?aO ?aB ?aS ?aL ?_; (case aP => exact rfl); (case aB => exact (by repeat (first | (with_reducible first | exact HB.out | apply below_alloc | apply pw_below_drewN | apply below_drew1 | refine below_set ?_ GE650.out) | exact HB.out))); (case aF => exact (fun _ _ => trivial)); (case aO => exact (by (with_reducible repeat (first | apply Kd.R_alloc | apply Kd.R_drewN | apply Kd.R_drew)); exact HO_7.out)); (case aS => exact (below_size (by repeat (first | (with_reducible first | exact HB.out | apply below_alloc | apply pw_below_drewN | apply below_drew1 | refine below_set ?_ GE650.out) | exact HB.out)))); (case aL => have := LMc21.out; omega); intro v657 w23 ho hb hg hat; rw [← Ny656.out] at ho; have n0_ := Aside0.mk (blk_grown (g := gb650) (o := .cells #[.string a0_0, .string a0_1, .string a0_2] 55 (0, 0)) (by (with_reducible repeat (first | refine blk_drewN ?_ _ | refine blk_drew ?_ | refine blk_alloc ?_ _)); exact BK650.out) hg (Kd.R_ne HO_7.out BK650.out (by decide))); have n1_ := Aside0.mk (hb); have n2_ := Aside0.mk (ho); clear BK650; clear HB; clear HO_7; have BK650 := n0_; have HB := n1_; have HO658 := n2_; clear n0_ n1_ n2_; clear ho hb hg hat))
                    go_roundg k2
                    case measure => have := HJ6.out; have := HK2.out; omega
                    case rel => exact ⟨(y656), (wrap64 (x8_2 + 1)), (by first | rfl | (simp; done) | (simp [*]; done)), H', ⟨by have := HJ6.out; have := HK2.out; omega⟩, ⟨by (with_reducible repeat (first | apply Kd.R_alloc | apply Kd.R_drewN | apply Kd.R_drew)); exact HO658.out⟩, ⟨by (with_reducible repeat (first | refine blk_drewN ?_ _ | refine blk_drew ?_ | refine blk_alloc ?_ _)); exact BK650.out⟩, ⟨by repeat (first | (with_reducible first | exact HB.out | apply below_alloc | apply pw_below_drewN | apply below_drew1 | refine below_set ?_ GE650.out) | exact HB.out)⟩⟩
                  · rw [if_neg c21] at H
                    exact absurd H (by simp)
              · replace c14 := Bool.eq_false_iff.mpr c14
                subst c14
                have H1 : (if x8_2 < (a0_2.size : Int) then (if 0 ≤ x8_2 then (if x7_2.length < 140737488355328 then (tallystickref15_kept.l0 k2 a1 x5_6 (x7_2 ++ [bt a0_2 x8_2]) (wrap64 (x8_2 + 1)) a0_0 a0_1 a0_2) else (none)) else (none)) else (if x7_2.length < 140737488355328 then (tallystickref15_kept.l0 k2 a1 x5_6 (x7_2 ++ [0]) (wrap64 (x8_2 + 1)) a0_0 a0_1 a0_2) else (none))) = some r := by rw [if_neg (show ¬ (false = true) by decide)] at H; exact H
                clear H
                have H := H1
                clear H1
                by_cases c24 : x8_2 < (a0_2.size : Int)
                · rw [if_pos c24] at H
                  have c24b0 : decide (x8_2 < (a0_2.size : Int)) = true := decide_eq_true c24
                  clear c24
                  by_cases c25 : 0 ≤ x8_2
                  · rw [if_pos c25] at H
                    have c25b0 : decide (0 ≤ x8_2) = true := decide_eq_true c25
                    clear c25
                    by_cases c27 : x7_2.length < 140737488355328
                    · rw [if_pos c27] at H
                      have LMc27 := Aside0.mk c27
                      clear c27
                      obtain ⟨y659, hy659⟩ : ∃ y_ : List Int, y_ = (x7_2 ++ [bt a0_2 x8_2]) := ⟨_, rfl⟩
                      replace H : (tallystickref15_kept.l0 k2 a1 x5_6 y659 (wrap64 (x8_2 + 1)) a0_0 a0_1 a0_2) = some r := by first | (rw [hy659]; with_reducible exact H) | (have H2_ := (Option.bind_some _ _).symm.trans H; rw [hy659]; with_reducible exact H2_) | (have H2_ := (Option.bind_some _ _).symm.trans H; with_reducible exact H2_) | with_reducible exact H | (rw [hy659]; exact H) | exact H
                      have Ny659 := Aside0.mk hy659
                      clear hy659
                      have H' := Aside0.mk H
                      clear H
                      have hcz28_0 : wr.cell? ⟨gb650, 0, none⟩ = some (.string a0_0) := (blk_cell BK650.out 0).trans rfl
                      have hcz28_1 : wr.cell? ⟨gb650, 1, none⟩ = some (.string a0_1) := (blk_cell BK650.out 1).trans rfl
                      have hcz28_2 : wr.cell? ⟨gb650, 2, none⟩ = some (.string a0_2) := (blk_cell BK650.out 2).trans rfl
                      have hfz28_0 := blk_frozen BK650.out 0
                      have hfz28_1 := blk_frozen BK650.out 1
                      have hfz28_2 := blk_frozen BK650.out 2
                      go_wp2_with (first | ((with_reducible refine gate_callee (f := 64) rfl ?_); refine goesL_ (some 39) rfl rfl Try.func64 (by kernel_rfl) rfl #[.int .u64 a1, .int .i64 (wrap64 (1 + (Int.tmod (wrap64 (Int.tdiv x8_2 16)) 63)))] rfl (by (try simp only [List.map_toArray, List.map_cons, List.map_nil]); first | done | rfl | (simp only [List.length_drop, List.length_take]; rfl)) ?_; (with_reducible refine (tallystickref15_bit.calls k2 a1 (wrap64 (1 + (Int.tmod (wrap64 (Int.tdiv x8_2 16)) 63))) false _ A13.out).mono ?_); rintro e w' ⟨rfl, ⟨nd, rfl⟩⟩; refine ⟨_, rfl, ?_⟩; have p26 : 0 ≤ (x8_2 : Int) := of_decide_eq_true (by first | (with_reducible assumption) | assumption); have q26 : x8_2 < (a0_2.size : Int) := of_decide_eq_true (by first | (with_reducible assumption) | assumption); have hx26 := bt_at a0_2 x8_2; replace p26 := eq_true p26; replace q26 := eq_true q26) | ((with_reducible refine gate_builtin (b := .append) (xs := #[.tmp 47, .tmp 51]) rfl ?_); at_builtin; refine Kd.R_append (Kd.int .u8) (w0 := w) w.heap.size rfl (.tmp 47) (.tmp 51) 115 5 (.int .u8 0) 1 rfl Try.underlying115 info5 rfl (by decide) (by omega) u7 x7_2 (bt a0_2 x8_2) [.int .u8 (bt a0_2 x8_2)] (fun _ => True) (fun _ => False) rfl rfl ?aP (fun _ hk => hk.elim) ?aF ?aO ?aB ?aS ?aL ?_; (case aP => exact rfl); (case aB => exact (by repeat (first | (with_reducible first | exact HB.out | apply below_alloc | apply pw_below_drewN | apply below_drew1 | refine below_set ?_ GE650.out) | exact HB.out))); (case aF => exact (fun _ _ => trivial)); (case aO => exact (by (with_reducible repeat (first | apply Kd.R_alloc | apply Kd.R_drewN | apply Kd.R_drew)); exact HO_7.out)); (case aS => exact (below_size (by repeat (first | (with_reducible first | exact HB.out | apply below_alloc | apply pw_below_drewN | apply below_drew1 | refine below_set ?_ GE650.out) | exact HB.out)))); (case aL => have := LMc27.out; omega); intro v660 w29 ho hb hg hat; rw [← Ny659.out] at ho; have n0_ := Aside0.mk (blk_grown (g := gb650) (o := .cells #[.string a0_0, .string a0_1, .string a0_2] 55 (0, 0)) (by (with_reducible repeat (first | refine blk_drewN ?_ _ | refine blk_drew ?_ | refine blk_alloc ?_ _)); exact BK650.out) hg (Kd.R_ne HO_7.out BK650.out (by decide))); have n1_ := Aside0.mk (hb); have n2_ := Aside0.mk (ho); clear BK650; clear HB; clear HO_7; have BK650 := n0_; have HB := n1_; have HO661 := n2_; clear n0_ n1_ n2_; clear ho hb hg hat))
                      go_roundg k2
                      case measure => have := HJ6.out; have := HK2.out; omega
                      case rel => exact ⟨(y659), (wrap64 (x8_2 + 1)), (by first | rfl | (simp; done) | (simp [*]; done)), H', ⟨by have := HJ6.out; have := HK2.out; omega⟩, ⟨by (with_reducible repeat (first | apply Kd.R_alloc | apply Kd.R_drewN | apply Kd.R_drew)); exact HO661.out⟩, ⟨by (with_reducible repeat (first | refine blk_drewN ?_ _ | refine blk_drew ?_ | refine blk_alloc ?_ _)); exact BK650.out⟩, ⟨by repeat (first | (with_reducible first | exact HB.out | apply below_alloc | apply pw_below_drewN | apply below_drew1 | refine below_set ?_ GE650.out) | exact HB.out)⟩⟩
                    · rw [if_neg c27] at H
                      exact absurd H (by simp)
                  · rw [if_neg c25] at H
                    exact absurd H (by simp)
                · rw [if_neg c24] at H
                  have c24b0 : decide (x8_2 < (a0_2.size : Int)) = false := decide_eq_false c24
                  clear c24
                  by_cases c30 : x7_2.length < 140737488355328
                  · rw [if_pos c30] at H
                    have LMc30 := Aside0.mk c30
                    clear c30
                    obtain ⟨y662, hy662⟩ : ∃ y_ : List Int, y_ = (x7_2 ++ [0]) := ⟨_, rfl⟩
                    replace H : (tallystickref15_kept.l0 k2 a1 x5_6 y662 (wrap64 (x8_2 + 1)) a0_0 a0_1 a0_2) = some r := by first | (rw [hy662]; with_reducible exact H) | (have H2_ := (Option.bind_some _ _).symm.trans H; rw [hy662]; with_reducible exact H2_) | (have H2_ := (Option.bind_some _ _).symm.trans H; with_reducible exact H2_) | with_reducible exact H | (rw [hy662]; exact H) | exact H
                    have Ny662 := Aside0.mk hy662
                    clear hy662
                    have H' := Aside0.mk H
                    clear H
                    have hcz31_0 : wr.cell? ⟨gb650, 0, none⟩ = some (.string a0_0) := (blk_cell BK650.out 0).trans rfl
                    have hcz31_1 : wr.cell? ⟨gb650, 1, none⟩ = some (.string a0_1) := (blk_cell BK650.out 1).trans rfl
                    have hcz31_2 : wr.cell? ⟨gb650, 2, none⟩ = some (.string a0_2) := (blk_cell BK650.out 2).trans rfl
                    have hfz31_0 := blk_frozen BK650.out 0
                    have hfz31_1 := blk_frozen BK650.out 1
                    have hfz31_2 := blk_frozen BK650.out 2
                    go_wp2_with (first | ((with_reducible refine gate_callee (f := 64) rfl ?_); refine goesL_ (some 39) rfl rfl Try.func64 (by kernel_rfl) rfl #[.int .u64 a1, .int .i64 (wrap64 (1 + (Int.tmod (wrap64 (Int.tdiv x8_2 16)) 63)))] rfl (by (try simp only [List.map_toArray, List.map_cons, List.map_nil]); first | done | rfl | (simp only [List.length_drop, List.length_take]; rfl)) ?_; (with_reducible refine (tallystickref15_bit.calls k2 a1 (wrap64 (1 + (Int.tmod (wrap64 (Int.tdiv x8_2 16)) 63))) false _ A13.out).mono ?_); rintro e w' ⟨rfl, ⟨nd, rfl⟩⟩; refine ⟨_, rfl, ?_⟩) | ((with_reducible refine gate_builtin (b := .append) (xs := #[.tmp 53, .tmp 54]) rfl ?_); at_builtin; refine Kd.R_append (Kd.int .u8) (w0 := w) w.heap.size rfl (.tmp 53) (.tmp 54) 115 5 (.int .u8 0) 1 rfl Try.underlying115 info5 rfl (by decide) (by omega) u7 x7_2 0 [.int .u8 0] (fun _ => True) (fun _ => False) rfl rfl ?aP (fun _ hk => hk.elim) ?aF ?aO ?aB ?aS ?aL ?_; (case aP => exact rfl); (case aB => exact (by repeat (first | (with_reducible first | exact HB.out | apply below_alloc | apply pw_below_drewN | apply below_drew1 | refine below_set ?_ GE650.out) | exact HB.out))); (case aF => exact (fun _ _ => trivial)); (case aO => exact (by (with_reducible repeat (first | apply Kd.R_alloc | apply Kd.R_drewN | apply Kd.R_drew)); exact HO_7.out)); (case aS => exact (below_size (by repeat (first | (with_reducible first | exact HB.out | apply below_alloc | apply pw_below_drewN | apply below_drew1 | refine below_set ?_ GE650.out) | exact HB.out)))); (case aL => have := LMc30.out; omega); intro v663 w32 ho hb hg hat; rw [← Ny662.out] at ho; have n0_ := Aside0.mk (blk_grown (g := gb650) (o := .cells #[.string a0_0, .string a0_1, .string a0_2] 55 (0, 0)) (by (with_reducible repeat (first | refine blk_drewN ?_ _ | refine blk_drew ?_ | refine blk_alloc ?_ _)); exact BK650.out) hg (Kd.R_ne HO_7.out BK650.out (by decide))); have n1_ := Aside0.mk (hb); have n2_ := Aside0.mk (ho); clear BK650; clear HB; clear HO_7; have BK650 := n0_; have HB := n1_; have HO664 := n2_; clear n0_ n1_ n2_; clear ho hb hg hat))
                    go_roundg k2
                    case measure => have := HJ6.out; have := HK2.out; omega
                    case rel => exact ⟨(y662), (wrap64 (x8_2 + 1)), (by first | rfl | (simp; done) | (simp [*]; done)), H', ⟨by have := HJ6.out; have := HK2.out; omega⟩, ⟨by (with_reducible repeat (first | apply Kd.R_alloc | apply Kd.R_drewN | apply Kd.R_drew)); exact HO664.out⟩, ⟨by (with_reducible repeat (first | refine blk_drewN ?_ _ | refine blk_drew ?_ | refine blk_alloc ?_ _)); exact BK650.out⟩, ⟨by repeat (first | (with_reducible first | exact HB.out | apply below_alloc | apply pw_below_drewN | apply below_drew1 | refine below_set ?_ GE650.out) | exact HB.out)⟩⟩
                  · rw [if_neg c30] at H
                    exact absurd H (by simp)
            · rw [if_neg c12] at H
              have c12b0 : decide (x8_2 < x5_6) = false := decide_eq_false c12
              clear c12
              obtain rfl := Option.some.inj H
              have hcv33 := own_string (P := Try.prog) Try.underlying115 Try.underlying5 Try.underlying9 (Kd.own_of_R HO_7.out)
              go_wp2
              go_ret
              exact ⟨by first | rfl | (simp [errW_none, errW_some] <;> rfl) | (simp [*, errW_none, errW_some] <;> rfl), by repeat (first | (with_reducible first | exact HB.out | apply below_alloc | apply pw_below_drewN | apply below_drew1 | refine below_set ?_ GE650.out) | exact HB.out)⟩

end Go.Proofs.Ytbpobnlkfpjijaa.Pr
