-- Laid by a program (wip/merge.py): texts of this claim, one behind the other.
import Derived.Test.YtbpobnlkfpjijaaX3
-- Pr50
section
namespace Go.Proofs.Ytbpobnlkfpjijaa.Pr
open Go.RowKit Go.Proofs.YtbpobnlkfpjijaaW.PrintWords Go.Proofs.YtbpobnlkfpjijaaW.PrintLast Go.Proofs.YtbpobnlkfpjijaaW.PrintMore
attribute [local go_sem] max2_int min2_int max_two min_two max_three min_three max_four min_four   -- for this text's walks alone
set_option linter.unusedVariables false
set_option linter.unusedSimpArgs false

attribute [local go_sem] Go.Proofs.Aid.cell_set_row
mutual
def tallystickref17_Leaf.j0 : Nat → Int → Int → Bool → Option (Int × Int × List Int × List Int × List Int × Bool × Int)
 | 0, _, _, _ => none
 | k + 1, x0, x1, x13 => if x13 = true then (some (0, 0, ([] : List Int), ([] : List Int), ([] : List Int), false, 13)) else (if x1 < 0 then (tallystickref17_Leaf.j1 k x0 x1 true) else (tallystickref17_Leaf.j1 k x0 x1 (decide (x1 > 100000))))
def tallystickref17_Leaf.j1 : Nat → Int → Int → Bool → Option (Int × Int × List Int × List Int × List Int × Bool × Int)
 | 0, _, _, _ => none
 | k + 1, x0, x1, x20 => if x20 = true then (some (0, 0, ([] : List Int), ([] : List Int), ([] : List Int), false, 1)) else ((tallystickref17_num.f k ([] : List Int)).bind fun t336 => ((tallystickref17_num.f k ([] : List Int)).bind fun t339 => ((tallystickref17_num.f k ([] : List Int)).bind fun t342 => (if x0 = 1 then (if x1 > 0 then ((tallystickref17_num.f k (([IntKind.u64.wrap (x1)] : List Int))).bind fun t349 => (some (x1, wrap64 (x1 + 1), t336, t349, t342, false, 0))) else (some (x1, wrap64 (x1 + 1), t336, t339, t342, false, 0))) else (if x1 > 0 then ((tallystickref17_num.f k (([IntKind.u64.wrap ((IntKind.u64.wrap (6 * (IntKind.u64.wrap (x1)))) - 5), IntKind.u64.wrap ((IntKind.u64.wrap (2 * (IntKind.u64.wrap (x1)))) - 1), IntKind.u64.wrap ((IntKind.u64.wrap (6 * (IntKind.u64.wrap (x1)))) - 1)] : List Int))).bind fun t355 => ((tallystickref17_num.f k (([IntKind.u64.wrap (x1), IntKind.u64.wrap (x1), IntKind.u64.wrap (x1), 10939058860032000] : List Int))).bind fun t361 => ((tallystickref05_Times.f k t355 (([IntKind.u64.wrap (13591409 + (IntKind.u64.wrap (545140134 * (IntKind.u64.wrap (x1)))))] : List Int))).bind fun t367 => (some (x1, wrap64 (x1 + 1), t355, t361, t367, ((Int.tmod x1 2) == 1), 0))))) else ((tallystickref05_Times.f k t336 (([IntKind.u64.wrap (13591409 + (IntKind.u64.wrap (545140134 * (IntKind.u64.wrap (x1)))))] : List Int))).bind fun t373 => (some (x1, wrap64 (x1 + 1), t336, t339, t373, ((Int.tmod x1 2) == 1), 0))))))))
end
def tallystickref17_Leaf.f (k : Nat) (a0 : Int) (a1 : Int) : Option (Int × Int × List Int × List Int × List Int × Bool × Int) := if a0 = 1 then (tallystickref17_Leaf.j0 k a0 a1 false) else (tallystickref17_Leaf.j0 k a0 a1 (a0 != 2))
theorem tallystickref17_Leaf.mono_l : ∀ k, (∀ y0 y1 y2, LeO (tallystickref17_Leaf.j0 k y0 y1 y2) (tallystickref17_Leaf.j0 (k + 1) y0 y1 y2)) ∧ (∀ y0 y1 y2, LeO (tallystickref17_Leaf.j1 k y0 y1 y2) (tallystickref17_Leaf.j1 (k + 1) y0 y1 y2))
 | 0 => ⟨fun _ _ _ r h => by simp [tallystickref17_Leaf.j0] at h, fun _ _ _ r h => by simp [tallystickref17_Leaf.j1] at h⟩
 | k + 1 => by
  obtain ⟨ih0, ih1⟩ := tallystickref17_Leaf.mono_l k
  refine ⟨?_, ?_⟩
  ·intro y0 y1 y2
   unfold tallystickref17_Leaf.j0
   repeat' first
   | (with_reducible exact ih0 _ _ _)
   | (with_reducible exact ih1 _ _ _)
   | (with_reducible exact tallystickref05_Times.mono _ _ _)
   | (with_reducible exact tallystickref17_num.mono _ _)
   | (with_reducible exact LeO.refl _)
   | (with_reducible exact LeO.none _)
   | (with_reducible refine LeO.ite ?_ ?_)
   | (with_reducible refine LeO.bind ?_ (fun _ => ?_))
   | exact ih0 _ _ _
   | exact ih1 _ _ _
   | exact tallystickref05_Times.mono _ _ _
   | exact tallystickref17_num.mono _ _
   | exact LeO.none _
   | refine LeO.ite ?_ ?_
   | refine LeO.bind ?_ (fun _ => ?_)
  intro y0 y1 y2
  unfold tallystickref17_Leaf.j1
  repeat' first
  | (with_reducible exact ih0 _ _ _)
  | (with_reducible exact ih1 _ _ _)
  | (with_reducible exact tallystickref05_Times.mono _ _ _)
  | (with_reducible exact tallystickref17_num.mono _ _)
  | (with_reducible exact LeO.refl _)
  | (with_reducible exact LeO.none _)
  | (with_reducible refine LeO.ite ?_ ?_)
  | (with_reducible refine LeO.bind ?_ (fun _ => ?_))
  | exact ih0 _ _ _
  | exact ih1 _ _ _
  | exact tallystickref05_Times.mono _ _ _
  | exact tallystickref17_num.mono _ _
  | exact LeO.none _
  | refine LeO.ite ?_ ?_
  | refine LeO.bind ?_ (fun _ => ?_)
theorem tallystickref17_Leaf.mono : ∀ a0 a1 k, LeO (tallystickref17_Leaf.f k a0 a1) (tallystickref17_Leaf.f (k + 1) a0 a1) := by
 intro a0 a1 k
 obtain ⟨ih0, ih1⟩ := tallystickref17_Leaf.mono_l k
 unfold tallystickref17_Leaf.f
 repeat' first
   | (with_reducible exact ih0 _ _ _)
   | (with_reducible exact ih1 _ _ _)
   | (with_reducible exact tallystickref05_Times.mono _ _ _)
   | (with_reducible exact tallystickref17_num.mono _ _)
   | (with_reducible exact LeO.refl _)
   | (with_reducible exact LeO.none _)
   | (with_reducible refine LeO.ite ?_ ?_)
   | (with_reducible refine LeO.bind ?_ (fun _ => ?_))
   | exact ih0 _ _ _
   | exact ih1 _ _ _
   | exact tallystickref05_Times.mono _ _ _
   | exact tallystickref17_num.mono _ _
   | exact LeO.none _
   | refine LeO.ite ?_ ?_
   | refine LeO.bind ?_ (fun _ => ?_)
set_option maxHeartbeats 8000000 in
set_option maxRecDepth 100000 in
theorem tallystickref17_Leaf.calls (k : Nat) (a0 : Int) (a1 : Int) (r1 : Int) (r2 : Int) (r3 : List Int) (r4 : List Int) (r5 : List Int) (r6 : Bool) (r7 : Int) (w : World) (h : tallystickref17_Leaf.f k a0 a1 = some (r1, r2, r3, r4, r5, r6, r7)) :
  Calls Try.prog 41 #[.int .i64 a0, .int .i64 a1] w fun e w' => ∃ v2_ v3_ v4_ : Value, e = .returned (.tuple #[.agg #[.int .i64 r1, .int .i64 r2, v2_, v3_, v4_, .bool r6], .int .i64 r7]) ∧ Kd.R (Kd.int .u64) 57 w' w.heap.size (fun k_ => some k_ ≠ (v3_ : Value).ownBlock ∧ some k_ ≠ (v4_ : Value).ownBlock) v2_ r3 ∧ Kd.R (Kd.int .u64) 57 w' w.heap.size (fun k_ => some k_ ≠ (v2_ : Value).ownBlock ∧ some k_ ≠ (v4_ : Value).ownBlock) v3_ r4 ∧ Kd.R (Kd.int .u64) 57 w' w.heap.size (fun k_ => some k_ ≠ (v2_ : Value).ownBlock ∧ some k_ ≠ (v3_ : Value).ownBlock) v4_ r5 ∧ Below w.heap.size w w' := by
 have hu41 := Try.underlying41
 have hu29 := Try.underlying29
 have HB := A_ (Below.refl w.heap.size w)
 have H : (if a0 = 1 then (tallystickref17_Leaf.j0 k a0 a1 false) else (tallystickref17_Leaf.j0 k a0 a1 (a0 != 2))) = some (r1, r2, r3, r4, r5, r6, r7) := h
 clear h; have HC3 := A_ H; clear H
 go_enter Try.func41, Try.ntmps41
 go_upto_region 1 with (first | ((with_reducible refine gate_dst (N := 4) rfl ?_); refine box_event ?hg (N := 4) ?hd (cs := #[.int .i64 0, .int .i64 0, .slice none 0 0, .slice none 0 0, .slice none 0 0, .bool false]) (t := 41) ?hr ?_; (case hd => rfl); (case hg => rfl); (case hr => first | (go_simp; done) | (go_simp; rfl)); intro gb335 hg w4 hbox hb; have BK335 := A_ hbox; have GW335 := A_ ((by rw [hg]; exact (below_size (hB_ w)) : w.heap.size ≤ gb335)); have GE335 := A_ ((by rw [hg]; exact (below_size (hB_ w)) : w.heap.size ≤ gb335)); replace HB := A_ (below_step (hB_ w) hb); clear hb hbox hg))
 (try simp only [Act.put, List.setIfInBounds_toArray, List.set_cons_zero, List.set_cons_succ])
 go_cut [13] (fun v13 wc => ∃ (kq : Nat) (x13_2 : Bool), v13 = .bool x13_2 ∧ AsC (tallystickref17_Leaf.j0 kq a0 a1 x13_2 = some (r1, r2, r3, r4, r5, r6, r7)) ∧ AsC (kq ≤ k) ∧ AsC (wc.heap[gb335]? = some (.cells #[.int .i64 0, .int .i64 0, (.slice none 0 0), (.slice none 0 0), (.slice none 0 0), .bool false] 41 (0, 0))) ∧ AsC (Below w.heap.size w wc))
 case first =>
  have H := HC3.out; clear HC3
  by_cases c5 : a0 = 1
  ·rw [if_pos c5] at H
   have c5b0 : (a0 == 1) = true := beq_iff_eq.mpr c5
   have c5b1 : (a0 != 1) = false := bne_eq_false_iff_eq.mpr c5
   clear c5
   (first | rw [c5b0] | (simp only [i64_w, i32_w]; rw [c5b0]) | skip)
   have H' := A_ H
   clear H
   go_wp2
   go_meet
   case rel => exact ⟨_, (false), (by first | rfl | (simp; done) | (simp [*]; done)), H', ⟨by first | omega | exact Nat.le_refl _⟩, ⟨b_ BK335⟩, ⟨hB_ w⟩⟩
  rw [if_neg c5] at H
  have c5b0 : (a0 == 1) = false := beq_eq_false_iff_ne.mpr c5
  have c5b1 : (a0 != 1) = true := bne_iff_ne.mpr c5
  (first | rw [c5b0] | (simp only [i64_w, i32_w]; rw [c5b0]) | skip)
  have H' := A_ H
  clear H
  go_wp2
  go_meet
  case rel => exact ⟨_, ((a0 != 2)), (by first | rfl | (simp; done) | (simp [*]; done)), H', ⟨by first | omega | exact Nat.le_refl _⟩, ⟨b_ BK335⟩, ⟨hB_ w⟩⟩
 case rest =>
  clear HC3; try clear p2; try clear c4; try clear c5; try clear c5b0; try clear c5b1
  obtain ⟨kq, x13_2, rfl, HA, HJ2, BK335, HB⟩ := hcut
  cases kq with
  | zero => exact absurd HA.out (by simp [tallystickref17_Leaf.j0])
  | succ kj2 =>
   have H := HA.out; clear HA
   simp only [tallystickref17_Leaf.j0] at H
   by_cases c6 : x13_2 = true
   ·subst c6
    have H1 : (some (0, 0, ([] : List Int), ([] : List Int), ([] : List Int), false, 13)) = some (r1, r2, r3, r4, r5, r6, r7) := by rw [if_pos rfl] at H; exact H
    clear H
    have H := H1
    clear H1
    simp only [Option.some.injEq, Prod.mk.injEq] at H
    obtain ⟨rfl, rfl, rfl, rfl, rfl, rfl, rfl⟩ := H
    obtain ⟨hcz7_0, hcz7_1, hcz7_2, hcz7_3, hcz7_4, hcz7_5, hfz7_0, hfz7_1, hfz7_2, hfz7_3, hfz7_4, hfz7_5⟩ := cf6_ BK335
    go_wp2
    refine bodyPost_ret (results_ct rfl _ _ gb335 41 #[.int .i64 0, .int .i64 0, .slice none 0 0, .slice none 0 0, .slice none 0 0, .bool false] (0, 0) _ rfl (by (with_reducible repeat (first|apply bA_|apply bN_|apply bD_)); refine blk_put (cs := #[.int .i64 0, .int .i64 0, .slice none 0 0, .slice none 0 0, .slice none 0 0, .bool false]) ?_ 5 _ rfl; (with_reducible repeat (first|apply bA_|apply bN_|apply bD_)); refine blk_put (cs := #[.int .i64 0, .int .i64 0, .slice none 0 0, .slice none 0 0, .slice none 0 0, .bool false]) ?_ 4 _ rfl; (with_reducible repeat (first|apply bA_|apply bN_|apply bD_)); refine blk_put (cs := #[.int .i64 0, .int .i64 0, .slice none 0 0, .slice none 0 0, .slice none 0 0, .bool false]) ?_ 3 _ rfl; (with_reducible repeat (first|apply bA_|apply bN_|apply bD_)); refine blk_put (cs := #[.int .i64 0, .int .i64 0, .slice none 0 0, .slice none 0 0, .slice none 0 0, .bool false]) ?_ 2 _ rfl; (with_reducible repeat (first|apply bA_|apply bN_|apply bD_)); refine blk_put (cs := #[.int .i64 0, .int .i64 0, .slice none 0 0, .slice none 0 0, .slice none 0 0, .bool false]) ?_ 1 _ rfl; (with_reducible repeat (first|apply bA_|apply bN_|apply bD_)); refine blk_put (cs := #[.int .i64 0, .int .i64 0, .slice none 0 0, .slice none 0 0, .slice none 0 0, .bool false]) ?_ 0 _ rfl; (with_reducible repeat (first|apply bA_|apply bN_|apply bD_)); exact BK335.out) Try.underlying41 rfl (by kernel_rfl)) rfl ?_
    exact ⟨_, _, _, by first | rfl | (simp [errW_none, errW_some] <;> rfl) | (simp [*, errW_none, errW_some] <;> rfl), by first | exact Kd.R_nil _ _ _ _ _ | exact Kd.N_nil _ _ _ _ _ | exact Kd.V_nil _ _ _ _ _ | exact Kd.Q_nil _ _ _ _ _ | exact Kd.S_nil _ _ _ _ _, by first | exact Kd.R_nil _ _ _ _ _ | exact Kd.N_nil _ _ _ _ _ | exact Kd.V_nil _ _ _ _ _ | exact Kd.Q_nil _ _ _ _ _ | exact Kd.S_nil _ _ _ _ _, by first | exact Kd.R_nil _ _ _ _ _ | exact Kd.N_nil _ _ _ _ _ | exact Kd.V_nil _ _ _ _ _ | exact Kd.Q_nil _ _ _ _ _ | exact Kd.S_nil _ _ _ _ _, hB_ w⟩
   replace c6 := Bool.eq_false_iff.mpr c6
   subst c6
   have H1 : (if a1 < 0 then (tallystickref17_Leaf.j1 kj2 a0 a1 true) else (tallystickref17_Leaf.j1 kj2 a0 a1 (decide (a1 > 100000)))) = some (r1, r2, r3, r4, r5, r6, r7) := by rw [if_neg (show ¬ (false = true) by decide)] at H; exact H
   clear H
   have H := H1
   clear H1; have HC8 := A_ H; clear H
   go_upto_region 3 with (fail)
   go_cut [20] (fun v20 wc => ∃ (kq : Nat) (x20_7 : Bool), v20 = .bool x20_7 ∧ AsC (tallystickref17_Leaf.j1 kq a0 a1 x20_7 = some (r1, r2, r3, r4, r5, r6, r7)) ∧ AsC (kq ≤ kj2) ∧ AsC (wc.heap[gb335]? = some (.cells #[.int .i64 0, .int .i64 0, (.slice none 0 0), (.slice none 0 0), (.slice none 0 0), .bool false] 41 (0, 0))) ∧ AsC (Below w.heap.size w wc))
   case first =>
    have H := HC8.out; clear HC8
    by_cases c9 : a1 < 0
    ·rw [if_pos c9] at H
     have c9b0 : decide (a1 < 0) = true := decide_eq_true c9
     clear c9
     (first | rw [c9b0] | (simp only [i64_w, i32_w]; rw [c9b0]) | skip)
     have H' := A_ H
     clear H
     go_wp2
     go_meet
     case rel => exact ⟨_, (true), (by first | rfl | (simp; done) | (simp [*]; done)), H', ⟨by have := HJ2.out; first | omega | exact Nat.le_refl _⟩, ⟨b_ BK335⟩, ⟨hB_ w⟩⟩
    rw [if_neg c9] at H
    have c9b0 : decide (a1 < 0) = false := decide_eq_false c9
    clear c9
    (first | rw [c9b0] | (simp only [i64_w, i32_w]; rw [c9b0]) | skip)
    have H' := A_ H
    clear H
    go_wp2
    go_meet
    case rel => exact ⟨_, (decide (a1 > 100000)), (by first | rfl | (simp; done) | (simp [*]; done)), H', ⟨by have := HJ2.out; first | omega | exact Nat.le_refl _⟩, ⟨b_ BK335⟩, ⟨hB_ w⟩⟩
   case rest =>
    clear HC8; try clear p2; try clear c4; try clear c5; try clear c5b0; try clear c5b1; try clear c6; try clear c9; try clear c9b0; try clear hcz7_0; try clear hcz7_1; try clear hcz7_2; try clear hcz7_3; try clear hcz7_4; try clear hcz7_5; try clear hfz7_0; try clear hfz7_1; try clear hfz7_2; try clear hfz7_3; try clear hfz7_4; try clear hfz7_5; try clear p2
    obtain ⟨kq, x20_7, rfl, HA, HJ7, BK335, HB⟩ := hcut
    cases kq with
    | zero => exact absurd HA.out (by simp [tallystickref17_Leaf.j1])
    | succ kj7 =>
     have H := HA.out; clear HA
     simp only [tallystickref17_Leaf.j1] at H
     by_cases c10 : x20_7 = true
     ·subst c10
      have H1 : (some (0, 0, ([] : List Int), ([] : List Int), ([] : List Int), false, 1)) = some (r1, r2, r3, r4, r5, r6, r7) := by rw [if_pos rfl] at H; exact H
      clear H
      have H := H1
      clear H1
      simp only [Option.some.injEq, Prod.mk.injEq] at H
      obtain ⟨rfl, rfl, rfl, rfl, rfl, rfl, rfl⟩ := H
      obtain ⟨hcz11_0, hcz11_1, hcz11_2, hcz11_3, hcz11_4, hcz11_5, hfz11_0, hfz11_1, hfz11_2, hfz11_3, hfz11_4, hfz11_5⟩ := cf6_ BK335
      go_wp2
      refine bodyPost_ret (results_ct rfl _ _ gb335 41 #[.int .i64 0, .int .i64 0, .slice none 0 0, .slice none 0 0, .slice none 0 0, .bool false] (0, 0) _ rfl (by (with_reducible repeat (first|apply bA_|apply bN_|apply bD_)); refine blk_put (cs := #[.int .i64 0, .int .i64 0, .slice none 0 0, .slice none 0 0, .slice none 0 0, .bool false]) ?_ 5 _ rfl; (with_reducible repeat (first|apply bA_|apply bN_|apply bD_)); refine blk_put (cs := #[.int .i64 0, .int .i64 0, .slice none 0 0, .slice none 0 0, .slice none 0 0, .bool false]) ?_ 4 _ rfl; (with_reducible repeat (first|apply bA_|apply bN_|apply bD_)); refine blk_put (cs := #[.int .i64 0, .int .i64 0, .slice none 0 0, .slice none 0 0, .slice none 0 0, .bool false]) ?_ 3 _ rfl; (with_reducible repeat (first|apply bA_|apply bN_|apply bD_)); refine blk_put (cs := #[.int .i64 0, .int .i64 0, .slice none 0 0, .slice none 0 0, .slice none 0 0, .bool false]) ?_ 2 _ rfl; (with_reducible repeat (first|apply bA_|apply bN_|apply bD_)); refine blk_put (cs := #[.int .i64 0, .int .i64 0, .slice none 0 0, .slice none 0 0, .slice none 0 0, .bool false]) ?_ 1 _ rfl; (with_reducible repeat (first|apply bA_|apply bN_|apply bD_)); refine blk_put (cs := #[.int .i64 0, .int .i64 0, .slice none 0 0, .slice none 0 0, .slice none 0 0, .bool false]) ?_ 0 _ rfl; (with_reducible repeat (first|apply bA_|apply bN_|apply bD_)); exact BK335.out) Try.underlying41 rfl (by kernel_rfl)) rfl ?_
      exact ⟨_, _, _, by first | rfl | (simp [errW_none, errW_some] <;> rfl) | (simp [*, errW_none, errW_some] <;> rfl), by first | exact Kd.R_nil _ _ _ _ _ | exact Kd.N_nil _ _ _ _ _ | exact Kd.V_nil _ _ _ _ _ | exact Kd.Q_nil _ _ _ _ _ | exact Kd.S_nil _ _ _ _ _, by first | exact Kd.R_nil _ _ _ _ _ | exact Kd.N_nil _ _ _ _ _ | exact Kd.V_nil _ _ _ _ _ | exact Kd.Q_nil _ _ _ _ _ | exact Kd.S_nil _ _ _ _ _, by first | exact Kd.R_nil _ _ _ _ _ | exact Kd.N_nil _ _ _ _ _ | exact Kd.V_nil _ _ _ _ _ | exact Kd.Q_nil _ _ _ _ _ | exact Kd.S_nil _ _ _ _ _, hB_ w⟩
     replace c10 := Bool.eq_false_iff.mpr c10
     subst c10
     have H1 : ((tallystickref17_num.f kj7 ([] : List Int)).bind fun t336 => ((tallystickref17_num.f kj7 ([] : List Int)).bind fun t339 => ((tallystickref17_num.f kj7 ([] : List Int)).bind fun t342 => (if a0 = 1 then (if a1 > 0 then ((tallystickref17_num.f kj7 (([IntKind.u64.wrap (a1)] : List Int))).bind fun t349 => (some (a1, wrap64 (a1 + 1), t336, t349, t342, false, 0))) else (some (a1, wrap64 (a1 + 1), t336, t339, t342, false, 0))) else (if a1 > 0 then ((tallystickref17_num.f kj7 (([IntKind.u64.wrap ((IntKind.u64.wrap (6 * (IntKind.u64.wrap (a1)))) - 5), IntKind.u64.wrap ((IntKind.u64.wrap (2 * (IntKind.u64.wrap (a1)))) - 1), IntKind.u64.wrap ((IntKind.u64.wrap (6 * (IntKind.u64.wrap (a1)))) - 1)] : List Int))).bind fun t355 => ((tallystickref17_num.f kj7 (([IntKind.u64.wrap (a1), IntKind.u64.wrap (a1), IntKind.u64.wrap (a1), 10939058860032000] : List Int))).bind fun t361 => ((tallystickref05_Times.f kj7 t355 (([IntKind.u64.wrap (13591409 + (IntKind.u64.wrap (545140134 * (IntKind.u64.wrap (a1)))))] : List Int))).bind fun t367 => (some (a1, wrap64 (a1 + 1), t355, t361, t367, ((Int.tmod a1 2) == 1), 0))))) else ((tallystickref05_Times.f kj7 t336 (([IntKind.u64.wrap (13591409 + (IntKind.u64.wrap (545140134 * (IntKind.u64.wrap (a1)))))] : List Int))).bind fun t373 => (some (a1, wrap64 (a1 + 1), t336, t339, t373, ((Int.tmod a1 2) == 1), 0)))))))) = some (r1, r2, r3, r4, r5, r6, r7) := by rw [if_neg (show ¬ (false = true) by decide)] at H; exact H
     clear H
     have H := H1
     clear H1
     replace H := Option.bind_eq_some_iff.mp H
     obtain ⟨t336, A120, H⟩ := H
     replace H : ((tallystickref17_num.f kj7 ([] : List Int)).bind fun t339 => ((tallystickref17_num.f kj7 ([] : List Int)).bind fun t342 => (if a0 = 1 then (if a1 > 0 then ((tallystickref17_num.f kj7 (([IntKind.u64.wrap (a1)] : List Int))).bind fun t349 => (some (a1, wrap64 (a1 + 1), t336, t349, t342, false, 0))) else (some (a1, wrap64 (a1 + 1), t336, t339, t342, false, 0))) else (if a1 > 0 then ((tallystickref17_num.f kj7 (([IntKind.u64.wrap ((IntKind.u64.wrap (6 * (IntKind.u64.wrap (a1)))) - 5), IntKind.u64.wrap ((IntKind.u64.wrap (2 * (IntKind.u64.wrap (a1)))) - 1), IntKind.u64.wrap ((IntKind.u64.wrap (6 * (IntKind.u64.wrap (a1)))) - 1)] : List Int))).bind fun t355 => ((tallystickref17_num.f kj7 (([IntKind.u64.wrap (a1), IntKind.u64.wrap (a1), IntKind.u64.wrap (a1), 10939058860032000] : List Int))).bind fun t361 => ((tallystickref05_Times.f kj7 t355 (([IntKind.u64.wrap (13591409 + (IntKind.u64.wrap (545140134 * (IntKind.u64.wrap (a1)))))] : List Int))).bind fun t367 => (some (a1, wrap64 (a1 + 1), t355, t361, t367, ((Int.tmod a1 2) == 1), 0))))) else ((tallystickref05_Times.f kj7 t336 (([IntKind.u64.wrap (13591409 + (IntKind.u64.wrap (545140134 * (IntKind.u64.wrap (a1)))))] : List Int))).bind fun t373 => (some (a1, wrap64 (a1 + 1), t336, t339, t373, ((Int.tmod a1 2) == 1), 0))))))) = some (r1, r2, r3, r4, r5, r6, r7) := H
     have A12 := A_ A120; clear A120
     replace H := Option.bind_eq_some_iff.mp H
     obtain ⟨t339, A130, H⟩ := H
     replace H : ((tallystickref17_num.f kj7 ([] : List Int)).bind fun t342 => (if a0 = 1 then (if a1 > 0 then ((tallystickref17_num.f kj7 (([IntKind.u64.wrap (a1)] : List Int))).bind fun t349 => (some (a1, wrap64 (a1 + 1), t336, t349, t342, false, 0))) else (some (a1, wrap64 (a1 + 1), t336, t339, t342, false, 0))) else (if a1 > 0 then ((tallystickref17_num.f kj7 (([IntKind.u64.wrap ((IntKind.u64.wrap (6 * (IntKind.u64.wrap (a1)))) - 5), IntKind.u64.wrap ((IntKind.u64.wrap (2 * (IntKind.u64.wrap (a1)))) - 1), IntKind.u64.wrap ((IntKind.u64.wrap (6 * (IntKind.u64.wrap (a1)))) - 1)] : List Int))).bind fun t355 => ((tallystickref17_num.f kj7 (([IntKind.u64.wrap (a1), IntKind.u64.wrap (a1), IntKind.u64.wrap (a1), 10939058860032000] : List Int))).bind fun t361 => ((tallystickref05_Times.f kj7 t355 (([IntKind.u64.wrap (13591409 + (IntKind.u64.wrap (545140134 * (IntKind.u64.wrap (a1)))))] : List Int))).bind fun t367 => (some (a1, wrap64 (a1 + 1), t355, t361, t367, ((Int.tmod a1 2) == 1), 0))))) else ((tallystickref05_Times.f kj7 t336 (([IntKind.u64.wrap (13591409 + (IntKind.u64.wrap (545140134 * (IntKind.u64.wrap (a1)))))] : List Int))).bind fun t373 => (some (a1, wrap64 (a1 + 1), t336, t339, t373, ((Int.tmod a1 2) == 1), 0)))))) = some (r1, r2, r3, r4, r5, r6, r7) := H
     have A13 := A_ A130; clear A130
     replace H := Option.bind_eq_some_iff.mp H
     obtain ⟨t342, A140, H⟩ := H
     replace H : (if a0 = 1 then (if a1 > 0 then ((tallystickref17_num.f kj7 (([IntKind.u64.wrap (a1)] : List Int))).bind fun t349 => (some (a1, wrap64 (a1 + 1), t336, t349, t342, false, 0))) else (some (a1, wrap64 (a1 + 1), t336, t339, t342, false, 0))) else (if a1 > 0 then ((tallystickref17_num.f kj7 (([IntKind.u64.wrap ((IntKind.u64.wrap (6 * (IntKind.u64.wrap (a1)))) - 5), IntKind.u64.wrap ((IntKind.u64.wrap (2 * (IntKind.u64.wrap (a1)))) - 1), IntKind.u64.wrap ((IntKind.u64.wrap (6 * (IntKind.u64.wrap (a1)))) - 1)] : List Int))).bind fun t355 => ((tallystickref17_num.f kj7 (([IntKind.u64.wrap (a1), IntKind.u64.wrap (a1), IntKind.u64.wrap (a1), 10939058860032000] : List Int))).bind fun t361 => ((tallystickref05_Times.f kj7 t355 (([IntKind.u64.wrap (13591409 + (IntKind.u64.wrap (545140134 * (IntKind.u64.wrap (a1)))))] : List Int))).bind fun t367 => (some (a1, wrap64 (a1 + 1), t355, t361, t367, ((Int.tmod a1 2) == 1), 0))))) else ((tallystickref05_Times.f kj7 t336 (([IntKind.u64.wrap (13591409 + (IntKind.u64.wrap (545140134 * (IntKind.u64.wrap (a1)))))] : List Int))).bind fun t373 => (some (a1, wrap64 (a1 + 1), t336, t339, t373, ((Int.tmod a1 2) == 1), 0))))) = some (r1, r2, r3, r4, r5, r6, r7) := H
     have A14 := A_ A140; clear A140
     by_cases c15 : a0 = 1
     ·rw [if_pos c15] at H
      have c15b0 : (a0 == 1) = true := beq_iff_eq.mpr c15
      have c15b1 : (a0 != 1) = false := bne_eq_false_iff_eq.mpr c15
      clear c15
      by_cases c16 : a1 > 0
      ·rw [if_pos c16] at H
       have c16b0 : decide (0 < a1) = true := decide_eq_true c16
       clear c16
       obtain ⟨y346, hy346⟩ : ∃ y_ : List Int, y_ = (([IntKind.u64.wrap (a1)] : List Int)) := ⟨_, rfl⟩
       replace H : ((tallystickref17_num.f kj7 y346).bind fun t349 => (some (a1, wrap64 (a1 + 1), t336, t349, t342, false, 0))) = some (r1, r2, r3, r4, r5, r6, r7) := by first | (rw [hy346]; with_reducible exact H) | (have H2_ := (Option.bind_some _ _).symm.trans H; rw [hy346]; with_reducible exact H2_) | (have H2_ := (Option.bind_some _ _).symm.trans H; with_reducible exact H2_) | with_reducible exact H | (rw [hy346]; exact H) | exact H
       have Ny346 := A_ hy346; clear hy346
       replace H := Option.bind_eq_some_iff.mp H
       obtain ⟨t349, A170, H⟩ := H
       replace H : (some (a1, wrap64 (a1 + 1), t336, t349, t342, false, 0)) = some (r1, r2, r3, r4, r5, r6, r7) := H
       have A17 := A_ A170; clear A170
       simp only [Option.some.injEq, Prod.mk.injEq] at H
       obtain ⟨rfl, rfl, rfl, rfl, rfl, rfl, rfl⟩ := H
       go_wp2_with (first | ((with_reducible refine gate_callee (f := 58) rfl ?_); refine goesL_ (some 28) rfl rfl Try.func58 (by kernel_rfl) rfl #[.slice none 0 0] rfl (by (try simp only [List.map_toArray, List.map_cons, List.map_nil]); first | done | rfl | (simp only [List.length_drop, List.length_take]; rfl)) ?_; (refine (tallystickref17_num.calls kj7 _ _ ([] : List Int) t336 _ ?side1 ?side2 A12.out).mono ?_); (case side1 => exact Kd.C_nil _ _); (case side2 => exact Nat.le_refl _); rintro e w18 ⟨v337, rfl, ho0, hb⟩; refine ⟨_, rfl, ?_⟩; have HO338 := A_ (Kd.R_lower ho0 (below_size (hB_ w))); replace BK335 := A_ (blk_below (g := gb335) (b_ BK335) hb); replace HB := A_ (below_step (hB_ w) hb); (try clear hb); (try clear hb2); (try clear hk); (try clear hi); (try clear ho0)) | ((with_reducible refine gate_callee (f := 58) rfl ?_); refine goesL_ (some 29) rfl rfl Try.func58 (by kernel_rfl) rfl #[.slice none 0 0] rfl (by (try simp only [List.map_toArray, List.map_cons, List.map_nil]); first | done | rfl | (simp only [List.length_drop, List.length_take]; rfl)) ?_; (refine (tallystickref17_num.calls kj7 _ _ ([] : List Int) t339 _ ?side1 ?side2 A13.out).mono ?_); (case side1 => exact Kd.C_nil _ _); (case side2 => exact Nat.le_refl _); rintro e w19 ⟨v340, rfl, ho0, hb⟩; refine ⟨_, rfl, ?_⟩; have HO341 := A_ (Kd.R_lower (Kd.R_new' ho0 (Kd.R_lt (r_ HO338))) (below_size (hB_ w))); replace HO338 := A_ (Kd.R_elder' (r_ HO338) (Kd.R_base ho0) hb); replace BK335 := A_ (blk_below (g := gb335) (b_ BK335) hb); replace HB := A_ (below_step (hB_ w) hb); (try clear hb); (try clear hb2); (try clear hk); (try clear hi); (try clear ho0)) | ((with_reducible refine gate_callee (f := 58) rfl ?_); refine goesL_ (some 30) rfl rfl Try.func58 (by kernel_rfl) rfl #[.slice none 0 0] rfl (by (try simp only [List.map_toArray, List.map_cons, List.map_nil]); first | done | rfl | (simp only [List.length_drop, List.length_take]; rfl)) ?_; (refine (tallystickref17_num.calls kj7 _ _ ([] : List Int) t342 _ ?side1 ?side2 A14.out).mono ?_); (case side1 => exact Kd.C_nil _ _); (case side2 => exact Nat.le_refl _); rintro e w20 ⟨v343, rfl, ho0, hb⟩; refine ⟨_, rfl, ?_⟩; have HO344 := A_ (Kd.R_lower (Kd.R_new' (Kd.R_new' ho0 (Kd.R_lt (r_ HO338))) (Kd.R_lt (r_ HO341))) (below_size (hB_ w))); replace HO338 := A_ (Kd.R_elder' (r_ HO338) (Kd.R_base ho0) hb); replace HO341 := A_ (Kd.R_elder' (r_ HO341) (Kd.R_base ho0) hb); replace BK335 := A_ (blk_below (g := gb335) (b_ BK335) hb); replace HB := A_ (below_step (hB_ w) hb); (try clear hb); (try clear hb2); (try clear hk); (try clear hi); (try clear ho0); obtain ⟨Ao21, co21, eo21⟩ := Kd.R_slice HO344.out; subst eo21; obtain ⟨Ao22, co22, eo22⟩ := Kd.R_slice HO341.out; subst eo22; obtain ⟨Ao23, co23, eo23⟩ := Kd.R_slice HO338.out; subst eo23) | ((with_reducible refine gate_dst (N := 7) rfl ?_); refine box_event ?hg (N := 7) ?hd (cs := #[.int .i64 0, .int .i64 0, .slice none 0 0, .slice none 0 0, .slice none 0 0, .bool false]) (t := 41) ?hr ?_; (case hd => rfl); (case hg => rfl); (case hr => first | (go_simp; done) | (go_simp; rfl)); intro gb345 hg w24 hbox hb; replace HO338 := A_ (Kd.R_below (r_ HO338) hb); replace HO341 := A_ (Kd.R_below (r_ HO341) hb); replace HO344 := A_ (Kd.R_below (r_ HO344) hb); have BK345 := A_ hbox; have GW345 := A_ ((by rw [hg]; exact (below_size (hB_ w)) : w.heap.size ≤ gb345)); have GE345 := A_ ((by rw [hg]; exact (below_size (hB_ w)) : w.heap.size ≤ gb345)); replace HB := A_ (below_step (hB_ w) hb); have NB335_345 := A_ ((by rw [hg]; exact Nat.ne_of_lt (blk_lt (g := gb335) (b_ BK335)) : gb335 ≠ gb345)); have NB345_335 := A_ ((by rw [hg]; exact Nat.ne_of_gt (blk_lt (g := gb335) (b_ BK335)) : gb345 ≠ gb335)); replace BK335 := A_ (blk_below (g := gb335) (b_ BK335) hb); clear hb hbox hg; have hnb25 := NB345_335.out; have hnc25 := NB335_345.out; obtain ⟨hcz26_0, hcz26_1, hcz26_2, hcz26_3, hcz26_4, hcz26_5, hfz26_0, hfz26_1, hfz26_2, hfz26_3, hfz26_4, hfz26_5⟩ := cf6_ BK345) | ((with_reducible refine gate_dst (N := 37) rfl ?_); refine Kd.R_lit (Kd.int .u64) _ 57 ?hg (N := 37) ?hd (xs := ([IntKind.u64.wrap (a1)] : List Int)) (inner := [.int .u64 (IntKind.u64.wrap (a1))]) (ok := fun _ => True) (okp := fun _ => True) ?hr ?hp (fun _ hk => hk) trivial (Below.refl _ _) (Nat.le_refl _) (by simp) ?_; (case hd => rfl); (case hg => rfl); (case hr => first | (go_simp; done) | (go_simp; rfl)); (case hp => exact (Reps.one (show Kd.M (Kd.int .u64) _ _ _ (IntKind.u64.wrap (a1)) [.int .u64 (IntKind.u64.wrap (a1))] from rfl) (Reps.none _ _))); intro v347 w27 ho28 hb hg_ hnew_; clear hg_ hnew_; (first | rw [← Ny346.out] at ho28 | (simp only [Int.reduceToNat] at ho28; rw [← Ny346.out] at ho28)); have HO348 := A_ (Kd.R_lower (Kd.R_new' (Kd.R_new' (Kd.R_new' ho28 (Kd.R_lt (by (with_reducible repeat (first|apply rA_|apply rN_|apply rD_)); exact (Kd.R_mono (Kd.R_far (p := ⟨gb345, 5, none⟩) (Kd.R_far (p := ⟨gb345, 4, none⟩) (Kd.R_far (p := ⟨gb345, 3, none⟩) (Kd.R_far (p := ⟨gb345, 2, none⟩) (Kd.R_far (p := ⟨gb345, 1, none⟩) (Kd.R_far (p := ⟨gb345, 0, none⟩) (Kd.R_types HO338.out BK345.out (by decide)) (fun _ hk => hk.2) (.int .i64 a1)) (fun _ hk => hk.2) (.int .i64 (wrap64 (a1 + 1)))) (fun _ hk => hk.2) (.slice Ao23 t336.length co23)) (fun _ hk => hk.2) (.slice Ao22 t339.length co22)) (fun _ hk => hk.2) (.slice Ao21 t342.length co21)) (fun _ hk => hk.2) (.bool false)) (fun _ h_ => h_.1))))) (Kd.R_lt (by (with_reducible repeat (first|apply rA_|apply rN_|apply rD_)); exact (Kd.R_mono (Kd.R_far (p := ⟨gb345, 5, none⟩) (Kd.R_far (p := ⟨gb345, 4, none⟩) (Kd.R_far (p := ⟨gb345, 3, none⟩) (Kd.R_far (p := ⟨gb345, 2, none⟩) (Kd.R_far (p := ⟨gb345, 1, none⟩) (Kd.R_far (p := ⟨gb345, 0, none⟩) (Kd.R_types HO341.out BK345.out (by decide)) (fun _ hk => hk.2) (.int .i64 a1)) (fun _ hk => hk.2) (.int .i64 (wrap64 (a1 + 1)))) (fun _ hk => hk.2) (.slice Ao23 t336.length co23)) (fun _ hk => hk.2) (.slice Ao22 t339.length co22)) (fun _ hk => hk.2) (.slice Ao21 t342.length co21)) (fun _ hk => hk.2) (.bool false)) (fun _ h_ => h_.1))))) (Kd.R_lt (by (with_reducible repeat (first|apply rA_|apply rN_|apply rD_)); exact (Kd.R_mono (Kd.R_far (p := ⟨gb345, 5, none⟩) (Kd.R_far (p := ⟨gb345, 4, none⟩) (Kd.R_far (p := ⟨gb345, 3, none⟩) (Kd.R_far (p := ⟨gb345, 2, none⟩) (Kd.R_far (p := ⟨gb345, 1, none⟩) (Kd.R_far (p := ⟨gb345, 0, none⟩) (Kd.R_types HO344.out BK345.out (by decide)) (fun _ hk => hk.2) (.int .i64 a1)) (fun _ hk => hk.2) (.int .i64 (wrap64 (a1 + 1)))) (fun _ hk => hk.2) (.slice Ao23 t336.length co23)) (fun _ hk => hk.2) (.slice Ao22 t339.length co22)) (fun _ hk => hk.2) (.slice Ao21 t342.length co21)) (fun _ hk => hk.2) (.bool false)) (fun _ h_ => h_.1))))) (below_size (hB_ w))); replace HO338 := A_ (Kd.R_elder' (by (with_reducible repeat (first|apply rA_|apply rN_|apply rD_)); exact (Kd.R_mono (Kd.R_far (p := ⟨gb345, 5, none⟩) (Kd.R_far (p := ⟨gb345, 4, none⟩) (Kd.R_far (p := ⟨gb345, 3, none⟩) (Kd.R_far (p := ⟨gb345, 2, none⟩) (Kd.R_far (p := ⟨gb345, 1, none⟩) (Kd.R_far (p := ⟨gb345, 0, none⟩) (Kd.R_types HO338.out BK345.out (by decide)) (fun _ hk => hk.2) (.int .i64 a1)) (fun _ hk => hk.2) (.int .i64 (wrap64 (a1 + 1)))) (fun _ hk => hk.2) (.slice Ao23 t336.length co23)) (fun _ hk => hk.2) (.slice Ao22 t339.length co22)) (fun _ hk => hk.2) (.slice Ao21 t342.length co21)) (fun _ hk => hk.2) (.bool false)) (fun _ h_ => h_.1))) (Kd.R_base ho28) hb); replace HO341 := A_ (Kd.R_elder' (by (with_reducible repeat (first|apply rA_|apply rN_|apply rD_)); exact (Kd.R_mono (Kd.R_far (p := ⟨gb345, 5, none⟩) (Kd.R_far (p := ⟨gb345, 4, none⟩) (Kd.R_far (p := ⟨gb345, 3, none⟩) (Kd.R_far (p := ⟨gb345, 2, none⟩) (Kd.R_far (p := ⟨gb345, 1, none⟩) (Kd.R_far (p := ⟨gb345, 0, none⟩) (Kd.R_types HO341.out BK345.out (by decide)) (fun _ hk => hk.2) (.int .i64 a1)) (fun _ hk => hk.2) (.int .i64 (wrap64 (a1 + 1)))) (fun _ hk => hk.2) (.slice Ao23 t336.length co23)) (fun _ hk => hk.2) (.slice Ao22 t339.length co22)) (fun _ hk => hk.2) (.slice Ao21 t342.length co21)) (fun _ hk => hk.2) (.bool false)) (fun _ h_ => h_.1))) (Kd.R_base ho28) hb); replace HO344 := A_ (Kd.R_elder' (by (with_reducible repeat (first|apply rA_|apply rN_|apply rD_)); exact (Kd.R_mono (Kd.R_far (p := ⟨gb345, 5, none⟩) (Kd.R_far (p := ⟨gb345, 4, none⟩) (Kd.R_far (p := ⟨gb345, 3, none⟩) (Kd.R_far (p := ⟨gb345, 2, none⟩) (Kd.R_far (p := ⟨gb345, 1, none⟩) (Kd.R_far (p := ⟨gb345, 0, none⟩) (Kd.R_types HO344.out BK345.out (by decide)) (fun _ hk => hk.2) (.int .i64 a1)) (fun _ hk => hk.2) (.int .i64 (wrap64 (a1 + 1)))) (fun _ hk => hk.2) (.slice Ao23 t336.length co23)) (fun _ hk => hk.2) (.slice Ao22 t339.length co22)) (fun _ hk => hk.2) (.slice Ao21 t342.length co21)) (fun _ hk => hk.2) (.bool false)) (fun _ h_ => h_.1))) (Kd.R_base ho28) hb); replace BK335 := A_ (blk_below (g := gb335) (o := .cells #[.int .i64 0, .int .i64 0, .slice none 0 0, .slice none 0 0, .slice none 0 0, .bool false] 41 (0, 0)) (by (with_reducible repeat (first|apply bA_|apply bN_|apply bD_)); refine blk_far ?_ NB335_345.out _; (with_reducible repeat (first|apply bA_|apply bN_|apply bD_)); refine blk_far ?_ NB335_345.out _; (with_reducible repeat (first|apply bA_|apply bN_|apply bD_)); refine blk_far ?_ NB335_345.out _; (with_reducible repeat (first|apply bA_|apply bN_|apply bD_)); refine blk_far ?_ NB335_345.out _; (with_reducible repeat (first|apply bA_|apply bN_|apply bD_)); refine blk_far ?_ NB335_345.out _; (with_reducible repeat (first|apply bA_|apply bN_|apply bD_)); refine blk_far ?_ NB335_345.out _; (with_reducible repeat (first|apply bA_|apply bN_|apply bD_)); exact BK335.out) hb); replace BK345 := A_ (blk_below (g := gb345) (o := .cells #[.int .i64 a1, .int .i64 (wrap64 (a1 + 1)), .slice Ao23 t336.length co23, .slice Ao22 t339.length co22, .slice Ao21 t342.length co21, .bool false] 41 (0, 0)) (by (with_reducible repeat (first|apply bA_|apply bN_|apply bD_)); refine blk_put (cs := #[.int .i64 a1, .int .i64 (wrap64 (a1 + 1)), .slice Ao23 t336.length co23, .slice Ao22 t339.length co22, .slice Ao21 t342.length co21, .bool false]) ?_ 5 _ rfl; (with_reducible repeat (first|apply bA_|apply bN_|apply bD_)); refine blk_put (cs := #[.int .i64 a1, .int .i64 (wrap64 (a1 + 1)), .slice Ao23 t336.length co23, .slice Ao22 t339.length co22, .slice none 0 0, .bool false]) ?_ 4 _ rfl; (with_reducible repeat (first|apply bA_|apply bN_|apply bD_)); refine blk_put (cs := #[.int .i64 a1, .int .i64 (wrap64 (a1 + 1)), .slice Ao23 t336.length co23, .slice none 0 0, .slice none 0 0, .bool false]) ?_ 3 _ rfl; (with_reducible repeat (first|apply bA_|apply bN_|apply bD_)); refine blk_put (cs := #[.int .i64 a1, .int .i64 (wrap64 (a1 + 1)), .slice none 0 0, .slice none 0 0, .slice none 0 0, .bool false]) ?_ 2 _ rfl; (with_reducible repeat (first|apply bA_|apply bN_|apply bD_)); refine blk_put (cs := #[.int .i64 a1, .int .i64 0, .slice none 0 0, .slice none 0 0, .slice none 0 0, .bool false]) ?_ 1 _ rfl; (with_reducible repeat (first|apply bA_|apply bN_|apply bD_)); refine blk_put (cs := #[.int .i64 0, .int .i64 0, .slice none 0 0, .slice none 0 0, .slice none 0 0, .bool false]) ?_ 0 _ rfl; (with_reducible repeat (first|apply bA_|apply bN_|apply bD_)); exact BK345.out) hb); replace HB := A_ (below_step (hB_ w) hb); clear hb ho28; obtain ⟨Ao29, co29, eo29⟩ := Kd.R_slice HO348.out; subst eo29) | ((with_reducible refine gate_callee (f := 58) rfl ?_); refine goesL_ (some 38) rfl rfl Try.func58 (by kernel_rfl) rfl #[.slice Ao29 y346.length co29] rfl (by (try simp only [List.map_toArray, List.map_cons, List.map_nil]); first | done | rfl | (simp only [List.length_drop, List.length_take]; rfl)) ?_; (with_reducible refine (tallystickref17_num.calls kj7 _ _ y346 t349 _ ?side1 ?side2 A17.out).mono ?_); (case side1 => repeat (first | exact (Kd.R_reads' HO348.out).2.2 | (with_reducible refine Kd.C_alloc ?_ _) | (with_reducible refine Kd.C_drewN ?_ _) | (with_reducible refine Kd.C_drew ?_))); (case side2 => exact (Kd.R_reads' HO348.out).2.1); rintro e w30 ⟨v350, rfl, ho0, hb⟩; refine ⟨_, rfl, ?_⟩; have HO351 := A_ (Kd.R_lower (Kd.R_new' (Kd.R_new' (Kd.R_new' (Kd.R_new' ho0 (Kd.R_lt (r_ HO338))) (Kd.R_lt (r_ HO341))) (Kd.R_lt (r_ HO344))) (Kd.R_lt (r_ HO348))) (below_size (hB_ w))); replace HO338 := A_ (Kd.R_elder' (r_ HO338) (Kd.R_base ho0) hb); replace HO341 := A_ (Kd.R_elder' (r_ HO341) (Kd.R_base ho0) hb); replace HO344 := A_ (Kd.R_elder' (r_ HO344) (Kd.R_base ho0) hb); replace HO348 := A_ (Kd.R_elder' (r_ HO348) (Kd.R_base ho0) hb); replace BK335 := A_ (blk_below (g := gb335) (b_ BK335) hb); replace BK345 := A_ (blk_below (g := gb345) (b_ BK345) hb); replace HB := A_ (below_step (hB_ w) hb); (try clear hb); (try clear hb2); (try clear hk); (try clear hi); (try clear ho0); obtain ⟨Ao31, co31, eo31⟩ := Kd.R_slice HO351.out; subst eo31; obtain ⟨hcz32_0, hcz32_1, hcz32_2, hcz32_3, hcz32_4, hcz32_5, hfz32_0, hfz32_1, hfz32_2, hfz32_3, hfz32_4, hfz32_5⟩ := cf6_ BK345; obtain ⟨hcz33_0, hcz33_1, hcz33_2, hcz33_3, hcz33_4, hcz33_5, hfz33_0, hfz33_1, hfz33_2, hfz33_3, hfz33_4, hfz33_5⟩ := cf6_ BK335))
       refine bodyPost_ret (results_ct rfl _ _ gb335 41 #[.int .i64 a1, .int .i64 (wrap64 (a1 + 1)), .slice Ao23 t336.length co23, .slice Ao31 t349.length co31, .slice Ao21 t342.length co21, .bool false] (0, 0) _ rfl (by (with_reducible repeat (first|apply bA_|apply bN_|apply bD_)); refine blk_put (cs := #[.int .i64 a1, .int .i64 (wrap64 (a1 + 1)), .slice Ao23 t336.length co23, .slice Ao31 t349.length co31, .slice Ao21 t342.length co21, .bool false]) ?_ 5 _ rfl; (with_reducible repeat (first|apply bA_|apply bN_|apply bD_)); refine blk_put (cs := #[.int .i64 a1, .int .i64 (wrap64 (a1 + 1)), .slice Ao23 t336.length co23, .slice Ao31 t349.length co31, .slice none 0 0, .bool false]) ?_ 4 _ rfl; (with_reducible repeat (first|apply bA_|apply bN_|apply bD_)); refine blk_put (cs := #[.int .i64 a1, .int .i64 (wrap64 (a1 + 1)), .slice Ao23 t336.length co23, .slice none 0 0, .slice none 0 0, .bool false]) ?_ 3 _ rfl; (with_reducible repeat (first|apply bA_|apply bN_|apply bD_)); refine blk_put (cs := #[.int .i64 a1, .int .i64 (wrap64 (a1 + 1)), .slice none 0 0, .slice none 0 0, .slice none 0 0, .bool false]) ?_ 2 _ rfl; (with_reducible repeat (first|apply bA_|apply bN_|apply bD_)); refine blk_put (cs := #[.int .i64 a1, .int .i64 0, .slice none 0 0, .slice none 0 0, .slice none 0 0, .bool false]) ?_ 1 _ rfl; (with_reducible repeat (first|apply bA_|apply bN_|apply bD_)); refine blk_put (cs := #[.int .i64 0, .int .i64 0, .slice none 0 0, .slice none 0 0, .slice none 0 0, .bool false]) ?_ 0 _ rfl; (with_reducible repeat (first|apply bA_|apply bN_|apply bD_)); refine blk_far ?_ NB335_345.out _; (with_reducible repeat (first|apply bA_|apply bN_|apply bD_)); exact BK335.out) Try.underlying41 rfl (by kernel_rfl)) rfl ?_
       exact ⟨_, _, _, by first | rfl | (simp [errW_none, errW_some] <;> rfl) | (simp [*, errW_none, errW_some] <;> rfl), by (with_reducible repeat (first|apply rA_|apply rN_|apply rD_)); exact Kd.R_mono (Kd.R_far (p := ⟨gb335, 5, none⟩) (Kd.R_far (p := ⟨gb335, 4, none⟩) (Kd.R_far (p := ⟨gb335, 3, none⟩) (Kd.R_far (p := ⟨gb335, 2, none⟩) (Kd.R_far (p := ⟨gb335, 1, none⟩) (Kd.R_far (p := ⟨gb335, 0, none⟩) (Kd.R_far (p := ⟨gb345, 3, none⟩) (Kd.R_types (Kd.R_types HO338.out BK345.out (by decide)) BK335.out (by decide)) (fun _ hk => hk.1.2) (.slice Ao31 t349.length co31)) (fun _ hk => hk.2) (.int .i64 a1)) (fun _ hk => hk.2) (.int .i64 (wrap64 (a1 + 1)))) (fun _ hk => hk.2) (.slice Ao23 t336.length co23)) (fun _ hk => hk.2) (.slice Ao31 t349.length co31)) (fun _ hk => hk.2) (.slice Ao21 t342.length co21)) (fun _ hk => hk.2) (.bool false)) (fun _ hk => ⟨hk.1.1.2, hk.1.1.1.1.2⟩), by (with_reducible repeat (first|apply rA_|apply rN_|apply rD_)); exact Kd.R_mono (Kd.R_far (p := ⟨gb335, 5, none⟩) (Kd.R_far (p := ⟨gb335, 4, none⟩) (Kd.R_far (p := ⟨gb335, 3, none⟩) (Kd.R_far (p := ⟨gb335, 2, none⟩) (Kd.R_far (p := ⟨gb335, 1, none⟩) (Kd.R_far (p := ⟨gb335, 0, none⟩) (Kd.R_far (p := ⟨gb345, 3, none⟩) (Kd.R_types (Kd.R_types HO351.out BK345.out (by decide)) BK335.out (by decide)) (fun _ hk => hk.1.2) (.slice Ao31 t349.length co31)) (fun _ hk => hk.2) (.int .i64 a1)) (fun _ hk => hk.2) (.int .i64 (wrap64 (a1 + 1)))) (fun _ hk => hk.2) (.slice Ao23 t336.length co23)) (fun _ hk => hk.2) (.slice Ao31 t349.length co31)) (fun _ hk => hk.2) (.slice Ao21 t342.length co21)) (fun _ hk => hk.2) (.bool false)) (fun _ hk => ⟨hk.1.1.1.1.1.2, hk.1.1.1.2⟩), by (with_reducible repeat (first|apply rA_|apply rN_|apply rD_)); exact Kd.R_mono (Kd.R_far (p := ⟨gb335, 5, none⟩) (Kd.R_far (p := ⟨gb335, 4, none⟩) (Kd.R_far (p := ⟨gb335, 3, none⟩) (Kd.R_far (p := ⟨gb335, 2, none⟩) (Kd.R_far (p := ⟨gb335, 1, none⟩) (Kd.R_far (p := ⟨gb335, 0, none⟩) (Kd.R_far (p := ⟨gb345, 3, none⟩) (Kd.R_types (Kd.R_types HO344.out BK345.out (by decide)) BK335.out (by decide)) (fun _ hk => hk.1.2) (.slice Ao31 t349.length co31)) (fun _ hk => hk.2) (.int .i64 a1)) (fun _ hk => hk.2) (.int .i64 (wrap64 (a1 + 1)))) (fun _ hk => hk.2) (.slice Ao23 t336.length co23)) (fun _ hk => hk.2) (.slice Ao31 t349.length co31)) (fun _ hk => hk.2) (.slice Ao21 t342.length co21)) (fun _ hk => hk.2) (.bool false)) (fun _ hk => ⟨hk.1.1.1.1.1.2, hk.1.1.2⟩), hB_ w⟩
      rw [if_neg c16] at H
      have c16b0 : decide (0 < a1) = false := decide_eq_false c16
      clear c16
      simp only [Option.some.injEq, Prod.mk.injEq] at H
      obtain ⟨rfl, rfl, rfl, rfl, rfl, rfl, rfl⟩ := H
      go_wp2_with (first | ((with_reducible refine gate_callee (f := 58) rfl ?_); refine goesL_ (some 28) rfl rfl Try.func58 (by kernel_rfl) rfl #[.slice none 0 0] rfl (by (try simp only [List.map_toArray, List.map_cons, List.map_nil]); first | done | rfl | (simp only [List.length_drop, List.length_take]; rfl)) ?_; (refine (tallystickref17_num.calls kj7 _ _ ([] : List Int) t336 _ ?side1 ?side2 A12.out).mono ?_); (case side1 => exact Kd.C_nil _ _); (case side2 => exact Nat.le_refl _); rintro e w34 ⟨v337, rfl, ho0, hb⟩; refine ⟨_, rfl, ?_⟩; have HO338 := A_ (Kd.R_lower ho0 (below_size (hB_ w))); replace BK335 := A_ (blk_below (g := gb335) (b_ BK335) hb); replace HB := A_ (below_step (hB_ w) hb); (try clear hb); (try clear hb2); (try clear hk); (try clear hi); (try clear ho0)) | ((with_reducible refine gate_callee (f := 58) rfl ?_); refine goesL_ (some 29) rfl rfl Try.func58 (by kernel_rfl) rfl #[.slice none 0 0] rfl (by (try simp only [List.map_toArray, List.map_cons, List.map_nil]); first | done | rfl | (simp only [List.length_drop, List.length_take]; rfl)) ?_; (refine (tallystickref17_num.calls kj7 _ _ ([] : List Int) t339 _ ?side1 ?side2 A13.out).mono ?_); (case side1 => exact Kd.C_nil _ _); (case side2 => exact Nat.le_refl _); rintro e w35 ⟨v340, rfl, ho0, hb⟩; refine ⟨_, rfl, ?_⟩; have HO341 := A_ (Kd.R_lower (Kd.R_new' ho0 (Kd.R_lt (r_ HO338))) (below_size (hB_ w))); replace HO338 := A_ (Kd.R_elder' (r_ HO338) (Kd.R_base ho0) hb); replace BK335 := A_ (blk_below (g := gb335) (b_ BK335) hb); replace HB := A_ (below_step (hB_ w) hb); (try clear hb); (try clear hb2); (try clear hk); (try clear hi); (try clear ho0)) | ((with_reducible refine gate_callee (f := 58) rfl ?_); refine goesL_ (some 30) rfl rfl Try.func58 (by kernel_rfl) rfl #[.slice none 0 0] rfl (by (try simp only [List.map_toArray, List.map_cons, List.map_nil]); first | done | rfl | (simp only [List.length_drop, List.length_take]; rfl)) ?_; (refine (tallystickref17_num.calls kj7 _ _ ([] : List Int) t342 _ ?side1 ?side2 A14.out).mono ?_); (case side1 => exact Kd.C_nil _ _); (case side2 => exact Nat.le_refl _); rintro e w36 ⟨v343, rfl, ho0, hb⟩; refine ⟨_, rfl, ?_⟩; have HO344 := A_ (Kd.R_lower (Kd.R_new' (Kd.R_new' ho0 (Kd.R_lt (r_ HO338))) (Kd.R_lt (r_ HO341))) (below_size (hB_ w))); replace HO338 := A_ (Kd.R_elder' (r_ HO338) (Kd.R_base ho0) hb); replace HO341 := A_ (Kd.R_elder' (r_ HO341) (Kd.R_base ho0) hb); replace BK335 := A_ (blk_below (g := gb335) (b_ BK335) hb); replace HB := A_ (below_step (hB_ w) hb); (try clear hb); (try clear hb2); (try clear hk); (try clear hi); (try clear ho0); obtain ⟨Ao37, co37, eo37⟩ := Kd.R_slice HO344.out; subst eo37; obtain ⟨Ao38, co38, eo38⟩ := Kd.R_slice HO341.out; subst eo38; obtain ⟨Ao39, co39, eo39⟩ := Kd.R_slice HO338.out; subst eo39) | ((with_reducible refine gate_dst (N := 7) rfl ?_); refine box_event ?hg (N := 7) ?hd (cs := #[.int .i64 0, .int .i64 0, .slice none 0 0, .slice none 0 0, .slice none 0 0, .bool false]) (t := 41) ?hr ?_; (case hd => rfl); (case hg => rfl); (case hr => first | (go_simp; done) | (go_simp; rfl)); intro gb345 hg w40 hbox hb; replace HO338 := A_ (Kd.R_below (r_ HO338) hb); replace HO341 := A_ (Kd.R_below (r_ HO341) hb); replace HO344 := A_ (Kd.R_below (r_ HO344) hb); have BK345 := A_ hbox; have GW345 := A_ ((by rw [hg]; exact (below_size (hB_ w)) : w.heap.size ≤ gb345)); have GE345 := A_ ((by rw [hg]; exact (below_size (hB_ w)) : w.heap.size ≤ gb345)); replace HB := A_ (below_step (hB_ w) hb); have NB335_345 := A_ ((by rw [hg]; exact Nat.ne_of_lt (blk_lt (g := gb335) (b_ BK335)) : gb335 ≠ gb345)); have NB345_335 := A_ ((by rw [hg]; exact Nat.ne_of_gt (blk_lt (g := gb335) (b_ BK335)) : gb345 ≠ gb335)); replace BK335 := A_ (blk_below (g := gb335) (b_ BK335) hb); clear hb hbox hg; have hnb41 := NB345_335.out; have hnc41 := NB335_345.out; obtain ⟨hcz42_0, hcz42_1, hcz42_2, hcz42_3, hcz42_4, hcz42_5, hfz42_0, hfz42_1, hfz42_2, hfz42_3, hfz42_4, hfz42_5⟩ := cf6_ BK345; obtain ⟨hcz43_0, hcz43_1, hcz43_2, hcz43_3, hcz43_4, hcz43_5, hfz43_0, hfz43_1, hfz43_2, hfz43_3, hfz43_4, hfz43_5⟩ := cf6_ BK335))
      refine bodyPost_ret (results_ct rfl _ _ gb335 41 #[.int .i64 a1, .int .i64 (wrap64 (a1 + 1)), .slice Ao39 t336.length co39, .slice Ao38 t339.length co38, .slice Ao37 t342.length co37, .bool false] (0, 0) _ rfl (by (with_reducible repeat (first|apply bA_|apply bN_|apply bD_)); refine blk_put (cs := #[.int .i64 a1, .int .i64 (wrap64 (a1 + 1)), .slice Ao39 t336.length co39, .slice Ao38 t339.length co38, .slice Ao37 t342.length co37, .bool false]) ?_ 5 _ rfl; (with_reducible repeat (first|apply bA_|apply bN_|apply bD_)); refine blk_put (cs := #[.int .i64 a1, .int .i64 (wrap64 (a1 + 1)), .slice Ao39 t336.length co39, .slice Ao38 t339.length co38, .slice none 0 0, .bool false]) ?_ 4 _ rfl; (with_reducible repeat (first|apply bA_|apply bN_|apply bD_)); refine blk_put (cs := #[.int .i64 a1, .int .i64 (wrap64 (a1 + 1)), .slice Ao39 t336.length co39, .slice none 0 0, .slice none 0 0, .bool false]) ?_ 3 _ rfl; (with_reducible repeat (first|apply bA_|apply bN_|apply bD_)); refine blk_put (cs := #[.int .i64 a1, .int .i64 (wrap64 (a1 + 1)), .slice none 0 0, .slice none 0 0, .slice none 0 0, .bool false]) ?_ 2 _ rfl; (with_reducible repeat (first|apply bA_|apply bN_|apply bD_)); refine blk_put (cs := #[.int .i64 a1, .int .i64 0, .slice none 0 0, .slice none 0 0, .slice none 0 0, .bool false]) ?_ 1 _ rfl; (with_reducible repeat (first|apply bA_|apply bN_|apply bD_)); refine blk_put (cs := #[.int .i64 0, .int .i64 0, .slice none 0 0, .slice none 0 0, .slice none 0 0, .bool false]) ?_ 0 _ rfl; (with_reducible repeat (first|apply bA_|apply bN_|apply bD_)); refine blk_far ?_ NB335_345.out _; (with_reducible repeat (first|apply bA_|apply bN_|apply bD_)); refine blk_far ?_ NB335_345.out _; (with_reducible repeat (first|apply bA_|apply bN_|apply bD_)); refine blk_far ?_ NB335_345.out _; (with_reducible repeat (first|apply bA_|apply bN_|apply bD_)); refine blk_far ?_ NB335_345.out _; (with_reducible repeat (first|apply bA_|apply bN_|apply bD_)); refine blk_far ?_ NB335_345.out _; (with_reducible repeat (first|apply bA_|apply bN_|apply bD_)); refine blk_far ?_ NB335_345.out _; (with_reducible repeat (first|apply bA_|apply bN_|apply bD_)); exact BK335.out) Try.underlying41 rfl (by kernel_rfl)) rfl ?_
      exact ⟨_, _, _, by first | rfl | (simp [errW_none, errW_some] <;> rfl) | (simp [*, errW_none, errW_some] <;> rfl), by (with_reducible repeat (first|apply rA_|apply rN_|apply rD_)); exact Kd.R_mono (Kd.R_far (p := ⟨gb335, 5, none⟩) (Kd.R_far (p := ⟨gb335, 4, none⟩) (Kd.R_far (p := ⟨gb335, 3, none⟩) (Kd.R_far (p := ⟨gb335, 2, none⟩) (Kd.R_far (p := ⟨gb335, 1, none⟩) (Kd.R_far (p := ⟨gb335, 0, none⟩) (Kd.R_far (p := ⟨gb345, 5, none⟩) (Kd.R_far (p := ⟨gb345, 4, none⟩) (Kd.R_far (p := ⟨gb345, 3, none⟩) (Kd.R_far (p := ⟨gb345, 2, none⟩) (Kd.R_far (p := ⟨gb345, 1, none⟩) (Kd.R_far (p := ⟨gb345, 0, none⟩) (Kd.R_types (Kd.R_types HO338.out BK345.out (by decide)) BK335.out (by decide)) (fun _ hk => hk.1.2) (.int .i64 a1)) (fun _ hk => hk.1.2) (.int .i64 (wrap64 (a1 + 1)))) (fun _ hk => hk.1.2) (.slice Ao39 t336.length co39)) (fun _ hk => hk.1.2) (.slice Ao38 t339.length co38)) (fun _ hk => hk.1.2) (.slice Ao37 t342.length co37)) (fun _ hk => hk.1.2) (.bool false)) (fun _ hk => hk.2) (.int .i64 a1)) (fun _ hk => hk.2) (.int .i64 (wrap64 (a1 + 1)))) (fun _ hk => hk.2) (.slice Ao39 t336.length co39)) (fun _ hk => hk.2) (.slice Ao38 t339.length co38)) (fun _ hk => hk.2) (.slice Ao37 t342.length co37)) (fun _ hk => hk.2) (.bool false)) (fun _ hk => ⟨hk.1.1.1.2, hk.1.1.2⟩), by (with_reducible repeat (first|apply rA_|apply rN_|apply rD_)); exact Kd.R_mono (Kd.R_far (p := ⟨gb335, 5, none⟩) (Kd.R_far (p := ⟨gb335, 4, none⟩) (Kd.R_far (p := ⟨gb335, 3, none⟩) (Kd.R_far (p := ⟨gb335, 2, none⟩) (Kd.R_far (p := ⟨gb335, 1, none⟩) (Kd.R_far (p := ⟨gb335, 0, none⟩) (Kd.R_far (p := ⟨gb345, 5, none⟩) (Kd.R_far (p := ⟨gb345, 4, none⟩) (Kd.R_far (p := ⟨gb345, 3, none⟩) (Kd.R_far (p := ⟨gb345, 2, none⟩) (Kd.R_far (p := ⟨gb345, 1, none⟩) (Kd.R_far (p := ⟨gb345, 0, none⟩) (Kd.R_types (Kd.R_types HO341.out BK345.out (by decide)) BK335.out (by decide)) (fun _ hk => hk.1.2) (.int .i64 a1)) (fun _ hk => hk.1.2) (.int .i64 (wrap64 (a1 + 1)))) (fun _ hk => hk.1.2) (.slice Ao39 t336.length co39)) (fun _ hk => hk.1.2) (.slice Ao38 t339.length co38)) (fun _ hk => hk.1.2) (.slice Ao37 t342.length co37)) (fun _ hk => hk.1.2) (.bool false)) (fun _ hk => hk.2) (.int .i64 a1)) (fun _ hk => hk.2) (.int .i64 (wrap64 (a1 + 1)))) (fun _ hk => hk.2) (.slice Ao39 t336.length co39)) (fun _ hk => hk.2) (.slice Ao38 t339.length co38)) (fun _ hk => hk.2) (.slice Ao37 t342.length co37)) (fun _ hk => hk.2) (.bool false)) (fun _ hk => ⟨hk.1.1.1.2, hk.1.1.2⟩), by (with_reducible repeat (first|apply rA_|apply rN_|apply rD_)); exact Kd.R_mono (Kd.R_far (p := ⟨gb335, 5, none⟩) (Kd.R_far (p := ⟨gb335, 4, none⟩) (Kd.R_far (p := ⟨gb335, 3, none⟩) (Kd.R_far (p := ⟨gb335, 2, none⟩) (Kd.R_far (p := ⟨gb335, 1, none⟩) (Kd.R_far (p := ⟨gb335, 0, none⟩) (Kd.R_far (p := ⟨gb345, 5, none⟩) (Kd.R_far (p := ⟨gb345, 4, none⟩) (Kd.R_far (p := ⟨gb345, 3, none⟩) (Kd.R_far (p := ⟨gb345, 2, none⟩) (Kd.R_far (p := ⟨gb345, 1, none⟩) (Kd.R_far (p := ⟨gb345, 0, none⟩) (Kd.R_types (Kd.R_types HO344.out BK345.out (by decide)) BK335.out (by decide)) (fun _ hk => hk.1.2) (.int .i64 a1)) (fun _ hk => hk.1.2) (.int .i64 (wrap64 (a1 + 1)))) (fun _ hk => hk.1.2) (.slice Ao39 t336.length co39)) (fun _ hk => hk.1.2) (.slice Ao38 t339.length co38)) (fun _ hk => hk.1.2) (.slice Ao37 t342.length co37)) (fun _ hk => hk.1.2) (.bool false)) (fun _ hk => hk.2) (.int .i64 a1)) (fun _ hk => hk.2) (.int .i64 (wrap64 (a1 + 1)))) (fun _ hk => hk.2) (.slice Ao39 t336.length co39)) (fun _ hk => hk.2) (.slice Ao38 t339.length co38)) (fun _ hk => hk.2) (.slice Ao37 t342.length co37)) (fun _ hk => hk.2) (.bool false)) (fun _ hk => ⟨hk.1.1.1.2, hk.1.1.2⟩), hB_ w⟩
     rw [if_neg c15] at H
     have c15b0 : (a0 == 1) = false := beq_eq_false_iff_ne.mpr c15
     have c15b1 : (a0 != 1) = true := bne_iff_ne.mpr c15
     by_cases c44 : a1 > 0
     ·rw [if_pos c44] at H
      have c44b0 : decide (0 < a1) = true := decide_eq_true c44
      clear c44
      obtain ⟨y352, hy352⟩ : ∃ y_ : List Int, y_ = (([IntKind.u64.wrap ((IntKind.u64.wrap (6 * (IntKind.u64.wrap (a1)))) - 5), IntKind.u64.wrap ((IntKind.u64.wrap (2 * (IntKind.u64.wrap (a1)))) - 1), IntKind.u64.wrap ((IntKind.u64.wrap (6 * (IntKind.u64.wrap (a1)))) - 1)] : List Int)) := ⟨_, rfl⟩
      replace H : ((tallystickref17_num.f kj7 y352).bind fun t355 => ((tallystickref17_num.f kj7 (([IntKind.u64.wrap (a1), IntKind.u64.wrap (a1), IntKind.u64.wrap (a1), 10939058860032000] : List Int))).bind fun t361 => ((tallystickref05_Times.f kj7 t355 (([IntKind.u64.wrap (13591409 + (IntKind.u64.wrap (545140134 * (IntKind.u64.wrap (a1)))))] : List Int))).bind fun t367 => (some (a1, wrap64 (a1 + 1), t355, t361, t367, ((Int.tmod a1 2) == 1), 0))))) = some (r1, r2, r3, r4, r5, r6, r7) := by first | (rw [hy352]; with_reducible exact H) | (have H2_ := (Option.bind_some _ _).symm.trans H; rw [hy352]; with_reducible exact H2_) | (have H2_ := (Option.bind_some _ _).symm.trans H; with_reducible exact H2_) | with_reducible exact H | (rw [hy352]; exact H) | exact H
      have Ny352 := A_ hy352; clear hy352
      replace H := Option.bind_eq_some_iff.mp H
      obtain ⟨t355, A450, H⟩ := H
      replace H : ((tallystickref17_num.f kj7 (([IntKind.u64.wrap (a1), IntKind.u64.wrap (a1), IntKind.u64.wrap (a1), 10939058860032000] : List Int))).bind fun t361 => ((tallystickref05_Times.f kj7 t355 (([IntKind.u64.wrap (13591409 + (IntKind.u64.wrap (545140134 * (IntKind.u64.wrap (a1)))))] : List Int))).bind fun t367 => (some (a1, wrap64 (a1 + 1), t355, t361, t367, ((Int.tmod a1 2) == 1), 0)))) = some (r1, r2, r3, r4, r5, r6, r7) := H
      have A45 := A_ A450; clear A450
      obtain ⟨y358, hy358⟩ : ∃ y_ : List Int, y_ = (([IntKind.u64.wrap (a1), IntKind.u64.wrap (a1), IntKind.u64.wrap (a1), 10939058860032000] : List Int)) := ⟨_, rfl⟩
      replace H : ((tallystickref17_num.f kj7 y358).bind fun t361 => ((tallystickref05_Times.f kj7 t355 (([IntKind.u64.wrap (13591409 + (IntKind.u64.wrap (545140134 * (IntKind.u64.wrap (a1)))))] : List Int))).bind fun t367 => (some (a1, wrap64 (a1 + 1), t355, t361, t367, ((Int.tmod a1 2) == 1), 0)))) = some (r1, r2, r3, r4, r5, r6, r7) := by first | (rw [hy358]; with_reducible exact H) | (have H2_ := (Option.bind_some _ _).symm.trans H; rw [hy358]; with_reducible exact H2_) | (have H2_ := (Option.bind_some _ _).symm.trans H; with_reducible exact H2_) | with_reducible exact H | (rw [hy358]; exact H) | exact H
      have Ny358 := A_ hy358; clear hy358
      replace H := Option.bind_eq_some_iff.mp H
      obtain ⟨t361, A460, H⟩ := H
      replace H : ((tallystickref05_Times.f kj7 t355 (([IntKind.u64.wrap (13591409 + (IntKind.u64.wrap (545140134 * (IntKind.u64.wrap (a1)))))] : List Int))).bind fun t367 => (some (a1, wrap64 (a1 + 1), t355, t361, t367, ((Int.tmod a1 2) == 1), 0))) = some (r1, r2, r3, r4, r5, r6, r7) := H
      have A46 := A_ A460; clear A460
      obtain ⟨y364, hy364⟩ : ∃ y_ : List Int, y_ = (([IntKind.u64.wrap (13591409 + (IntKind.u64.wrap (545140134 * (IntKind.u64.wrap (a1)))))] : List Int)) := ⟨_, rfl⟩
      replace H : ((tallystickref05_Times.f kj7 t355 y364).bind fun t367 => (some (a1, wrap64 (a1 + 1), t355, t361, t367, ((Int.tmod a1 2) == 1), 0))) = some (r1, r2, r3, r4, r5, r6, r7) := by first | (rw [hy364]; with_reducible exact H) | (have H2_ := (Option.bind_some _ _).symm.trans H; rw [hy364]; with_reducible exact H2_) | (have H2_ := (Option.bind_some _ _).symm.trans H; with_reducible exact H2_) | with_reducible exact H | (rw [hy364]; exact H) | exact H
      have Ny364 := A_ hy364; clear hy364
      replace H := Option.bind_eq_some_iff.mp H
      obtain ⟨t367, A470, H⟩ := H
      replace H : (some (a1, wrap64 (a1 + 1), t355, t361, t367, ((Int.tmod a1 2) == 1), 0)) = some (r1, r2, r3, r4, r5, r6, r7) := H
      have A47 := A_ A470; clear A470
      simp only [Option.some.injEq, Prod.mk.injEq] at H
      obtain ⟨rfl, rfl, rfl, rfl, rfl, rfl, rfl⟩ := H
      go_wp2_with (first | ((with_reducible refine gate_callee (f := 58) rfl ?_); refine goesL_ (some 28) rfl rfl Try.func58 (by kernel_rfl) rfl #[.slice none 0 0] rfl (by (try simp only [List.map_toArray, List.map_cons, List.map_nil]); first | done | rfl | (simp only [List.length_drop, List.length_take]; rfl)) ?_; (refine (tallystickref17_num.calls kj7 _ _ ([] : List Int) t336 _ ?side1 ?side2 A12.out).mono ?_); (case side1 => exact Kd.C_nil _ _); (case side2 => exact Nat.le_refl _); rintro e w48 ⟨v337, rfl, ho0, hb⟩; refine ⟨_, rfl, ?_⟩; have HO338 := A_ (Kd.R_lower ho0 (below_size (hB_ w))); replace BK335 := A_ (blk_below (g := gb335) (b_ BK335) hb); replace HB := A_ (below_step (hB_ w) hb); (try clear hb); (try clear hb2); (try clear hk); (try clear hi); (try clear ho0)) | ((with_reducible refine gate_callee (f := 58) rfl ?_); refine goesL_ (some 29) rfl rfl Try.func58 (by kernel_rfl) rfl #[.slice none 0 0] rfl (by (try simp only [List.map_toArray, List.map_cons, List.map_nil]); first | done | rfl | (simp only [List.length_drop, List.length_take]; rfl)) ?_; (refine (tallystickref17_num.calls kj7 _ _ ([] : List Int) t339 _ ?side1 ?side2 A13.out).mono ?_); (case side1 => exact Kd.C_nil _ _); (case side2 => exact Nat.le_refl _); rintro e w49 ⟨v340, rfl, ho0, hb⟩; refine ⟨_, rfl, ?_⟩; have HO341 := A_ (Kd.R_lower (Kd.R_new' ho0 (Kd.R_lt (r_ HO338))) (below_size (hB_ w))); replace HO338 := A_ (Kd.R_elder' (r_ HO338) (Kd.R_base ho0) hb); replace BK335 := A_ (blk_below (g := gb335) (b_ BK335) hb); replace HB := A_ (below_step (hB_ w) hb); (try clear hb); (try clear hb2); (try clear hk); (try clear hi); (try clear ho0)) | ((with_reducible refine gate_callee (f := 58) rfl ?_); refine goesL_ (some 30) rfl rfl Try.func58 (by kernel_rfl) rfl #[.slice none 0 0] rfl (by (try simp only [List.map_toArray, List.map_cons, List.map_nil]); first | done | rfl | (simp only [List.length_drop, List.length_take]; rfl)) ?_; (refine (tallystickref17_num.calls kj7 _ _ ([] : List Int) t342 _ ?side1 ?side2 A14.out).mono ?_); (case side1 => exact Kd.C_nil _ _); (case side2 => exact Nat.le_refl _); rintro e w50 ⟨v343, rfl, ho0, hb⟩; refine ⟨_, rfl, ?_⟩; have HO344 := A_ (Kd.R_lower (Kd.R_new' (Kd.R_new' ho0 (Kd.R_lt (r_ HO338))) (Kd.R_lt (r_ HO341))) (below_size (hB_ w))); replace HO338 := A_ (Kd.R_elder' (r_ HO338) (Kd.R_base ho0) hb); replace HO341 := A_ (Kd.R_elder' (r_ HO341) (Kd.R_base ho0) hb); replace BK335 := A_ (blk_below (g := gb335) (b_ BK335) hb); replace HB := A_ (below_step (hB_ w) hb); (try clear hb); (try clear hb2); (try clear hk); (try clear hi); (try clear ho0); obtain ⟨Ao51, co51, eo51⟩ := Kd.R_slice HO344.out; subst eo51; obtain ⟨Ao52, co52, eo52⟩ := Kd.R_slice HO341.out; subst eo52; obtain ⟨Ao53, co53, eo53⟩ := Kd.R_slice HO338.out; subst eo53) | ((with_reducible refine gate_dst (N := 7) rfl ?_); refine box_event ?hg (N := 7) ?hd (cs := #[.int .i64 0, .int .i64 0, .slice none 0 0, .slice none 0 0, .slice none 0 0, .bool false]) (t := 41) ?hr ?_; (case hd => rfl); (case hg => rfl); (case hr => first | (go_simp; done) | (go_simp; rfl)); intro gb345 hg w54 hbox hb; replace HO338 := A_ (Kd.R_below (r_ HO338) hb); replace HO341 := A_ (Kd.R_below (r_ HO341) hb); replace HO344 := A_ (Kd.R_below (r_ HO344) hb); have BK345 := A_ hbox; have GW345 := A_ ((by rw [hg]; exact (below_size (hB_ w)) : w.heap.size ≤ gb345)); have GE345 := A_ ((by rw [hg]; exact (below_size (hB_ w)) : w.heap.size ≤ gb345)); replace HB := A_ (below_step (hB_ w) hb); have NB335_345 := A_ ((by rw [hg]; exact Nat.ne_of_lt (blk_lt (g := gb335) (b_ BK335)) : gb335 ≠ gb345)); have NB345_335 := A_ ((by rw [hg]; exact Nat.ne_of_gt (blk_lt (g := gb335) (b_ BK335)) : gb345 ≠ gb335)); replace BK335 := A_ (blk_below (g := gb335) (b_ BK335) hb); clear hb hbox hg; have hnb55 := NB345_335.out; have hnc55 := NB335_345.out; obtain ⟨hcz56_0, hcz56_1, hcz56_2, hcz56_3, hcz56_4, hcz56_5, hfz56_0, hfz56_1, hfz56_2, hfz56_3, hfz56_4, hfz56_5⟩ := cf6_ BK345) | ((with_reducible refine gate_dst (N := 52) rfl ?_); refine Kd.R_lit (Kd.int .u64) _ 57 ?hg (N := 52) ?hd (xs := ([IntKind.u64.wrap ((IntKind.u64.wrap (6 * (IntKind.u64.wrap (a1)))) - 5), IntKind.u64.wrap ((IntKind.u64.wrap (2 * (IntKind.u64.wrap (a1)))) - 1), IntKind.u64.wrap ((IntKind.u64.wrap (6 * (IntKind.u64.wrap (a1)))) - 1)] : List Int)) (inner := [.int .u64 (IntKind.u64.wrap ((IntKind.u64.wrap (6 * (IntKind.u64.wrap (a1)))) - 5)), .int .u64 (IntKind.u64.wrap ((IntKind.u64.wrap (2 * (IntKind.u64.wrap (a1)))) - 1)), .int .u64 (IntKind.u64.wrap ((IntKind.u64.wrap (6 * (IntKind.u64.wrap (a1)))) - 1))]) (ok := fun _ => True) (okp := fun _ => True) ?hr ?hp (fun _ hk => hk) trivial (Below.refl _ _) (Nat.le_refl _) (by simp) ?_; (case hd => rfl); (case hg => rfl); (case hr => first | (go_simp; done) | (go_simp; rfl)); (case hp => exact (Reps.one (show Kd.M (Kd.int .u64) _ _ _ (IntKind.u64.wrap ((IntKind.u64.wrap (6 * (IntKind.u64.wrap (a1)))) - 5)) [.int .u64 (IntKind.u64.wrap ((IntKind.u64.wrap (6 * (IntKind.u64.wrap (a1)))) - 5))] from rfl) (Reps.one (show Kd.M (Kd.int .u64) _ _ _ (IntKind.u64.wrap ((IntKind.u64.wrap (2 * (IntKind.u64.wrap (a1)))) - 1)) [.int .u64 (IntKind.u64.wrap ((IntKind.u64.wrap (2 * (IntKind.u64.wrap (a1)))) - 1))] from rfl) (Reps.one (show Kd.M (Kd.int .u64) _ _ _ (IntKind.u64.wrap ((IntKind.u64.wrap (6 * (IntKind.u64.wrap (a1)))) - 1)) [.int .u64 (IntKind.u64.wrap ((IntKind.u64.wrap (6 * (IntKind.u64.wrap (a1)))) - 1))] from rfl) (Reps.none _ _))))); intro v353 w57 ho58 hb hg_ hnew_; clear hg_ hnew_; (first | rw [← Ny352.out] at ho58 | (simp only [Int.reduceToNat] at ho58; rw [← Ny352.out] at ho58)); have HO354 := A_ (Kd.R_lower (Kd.R_new' (Kd.R_new' (Kd.R_new' ho58 (Kd.R_lt (by (with_reducible repeat (first|apply rA_|apply rN_|apply rD_)); exact (Kd.R_mono (Kd.R_far (p := ⟨gb345, 5, none⟩) (Kd.R_far (p := ⟨gb345, 4, none⟩) (Kd.R_far (p := ⟨gb345, 3, none⟩) (Kd.R_far (p := ⟨gb345, 2, none⟩) (Kd.R_far (p := ⟨gb345, 1, none⟩) (Kd.R_far (p := ⟨gb345, 0, none⟩) (Kd.R_types HO338.out BK345.out (by decide)) (fun _ hk => hk.2) (.int .i64 a1)) (fun _ hk => hk.2) (.int .i64 (wrap64 (a1 + 1)))) (fun _ hk => hk.2) (.slice Ao53 t336.length co53)) (fun _ hk => hk.2) (.slice Ao52 t339.length co52)) (fun _ hk => hk.2) (.slice Ao51 t342.length co51)) (fun _ hk => hk.2) (.bool false)) (fun _ h_ => h_.1))))) (Kd.R_lt (by (with_reducible repeat (first|apply rA_|apply rN_|apply rD_)); exact (Kd.R_mono (Kd.R_far (p := ⟨gb345, 5, none⟩) (Kd.R_far (p := ⟨gb345, 4, none⟩) (Kd.R_far (p := ⟨gb345, 3, none⟩) (Kd.R_far (p := ⟨gb345, 2, none⟩) (Kd.R_far (p := ⟨gb345, 1, none⟩) (Kd.R_far (p := ⟨gb345, 0, none⟩) (Kd.R_types HO341.out BK345.out (by decide)) (fun _ hk => hk.2) (.int .i64 a1)) (fun _ hk => hk.2) (.int .i64 (wrap64 (a1 + 1)))) (fun _ hk => hk.2) (.slice Ao53 t336.length co53)) (fun _ hk => hk.2) (.slice Ao52 t339.length co52)) (fun _ hk => hk.2) (.slice Ao51 t342.length co51)) (fun _ hk => hk.2) (.bool false)) (fun _ h_ => h_.1))))) (Kd.R_lt (by (with_reducible repeat (first|apply rA_|apply rN_|apply rD_)); exact (Kd.R_mono (Kd.R_far (p := ⟨gb345, 5, none⟩) (Kd.R_far (p := ⟨gb345, 4, none⟩) (Kd.R_far (p := ⟨gb345, 3, none⟩) (Kd.R_far (p := ⟨gb345, 2, none⟩) (Kd.R_far (p := ⟨gb345, 1, none⟩) (Kd.R_far (p := ⟨gb345, 0, none⟩) (Kd.R_types HO344.out BK345.out (by decide)) (fun _ hk => hk.2) (.int .i64 a1)) (fun _ hk => hk.2) (.int .i64 (wrap64 (a1 + 1)))) (fun _ hk => hk.2) (.slice Ao53 t336.length co53)) (fun _ hk => hk.2) (.slice Ao52 t339.length co52)) (fun _ hk => hk.2) (.slice Ao51 t342.length co51)) (fun _ hk => hk.2) (.bool false)) (fun _ h_ => h_.1))))) (below_size (hB_ w))); replace HO338 := A_ (Kd.R_elder' (by (with_reducible repeat (first|apply rA_|apply rN_|apply rD_)); exact (Kd.R_mono (Kd.R_far (p := ⟨gb345, 5, none⟩) (Kd.R_far (p := ⟨gb345, 4, none⟩) (Kd.R_far (p := ⟨gb345, 3, none⟩) (Kd.R_far (p := ⟨gb345, 2, none⟩) (Kd.R_far (p := ⟨gb345, 1, none⟩) (Kd.R_far (p := ⟨gb345, 0, none⟩) (Kd.R_types HO338.out BK345.out (by decide)) (fun _ hk => hk.2) (.int .i64 a1)) (fun _ hk => hk.2) (.int .i64 (wrap64 (a1 + 1)))) (fun _ hk => hk.2) (.slice Ao53 t336.length co53)) (fun _ hk => hk.2) (.slice Ao52 t339.length co52)) (fun _ hk => hk.2) (.slice Ao51 t342.length co51)) (fun _ hk => hk.2) (.bool false)) (fun _ h_ => h_.1))) (Kd.R_base ho58) hb); replace HO341 := A_ (Kd.R_elder' (by (with_reducible repeat (first|apply rA_|apply rN_|apply rD_)); exact (Kd.R_mono (Kd.R_far (p := ⟨gb345, 5, none⟩) (Kd.R_far (p := ⟨gb345, 4, none⟩) (Kd.R_far (p := ⟨gb345, 3, none⟩) (Kd.R_far (p := ⟨gb345, 2, none⟩) (Kd.R_far (p := ⟨gb345, 1, none⟩) (Kd.R_far (p := ⟨gb345, 0, none⟩) (Kd.R_types HO341.out BK345.out (by decide)) (fun _ hk => hk.2) (.int .i64 a1)) (fun _ hk => hk.2) (.int .i64 (wrap64 (a1 + 1)))) (fun _ hk => hk.2) (.slice Ao53 t336.length co53)) (fun _ hk => hk.2) (.slice Ao52 t339.length co52)) (fun _ hk => hk.2) (.slice Ao51 t342.length co51)) (fun _ hk => hk.2) (.bool false)) (fun _ h_ => h_.1))) (Kd.R_base ho58) hb); replace HO344 := A_ (Kd.R_elder' (by (with_reducible repeat (first|apply rA_|apply rN_|apply rD_)); exact (Kd.R_mono (Kd.R_far (p := ⟨gb345, 5, none⟩) (Kd.R_far (p := ⟨gb345, 4, none⟩) (Kd.R_far (p := ⟨gb345, 3, none⟩) (Kd.R_far (p := ⟨gb345, 2, none⟩) (Kd.R_far (p := ⟨gb345, 1, none⟩) (Kd.R_far (p := ⟨gb345, 0, none⟩) (Kd.R_types HO344.out BK345.out (by decide)) (fun _ hk => hk.2) (.int .i64 a1)) (fun _ hk => hk.2) (.int .i64 (wrap64 (a1 + 1)))) (fun _ hk => hk.2) (.slice Ao53 t336.length co53)) (fun _ hk => hk.2) (.slice Ao52 t339.length co52)) (fun _ hk => hk.2) (.slice Ao51 t342.length co51)) (fun _ hk => hk.2) (.bool false)) (fun _ h_ => h_.1))) (Kd.R_base ho58) hb); replace BK335 := A_ (blk_below (g := gb335) (o := .cells #[.int .i64 0, .int .i64 0, .slice none 0 0, .slice none 0 0, .slice none 0 0, .bool false] 41 (0, 0)) (by (with_reducible repeat (first|apply bA_|apply bN_|apply bD_)); refine blk_far ?_ NB335_345.out _; (with_reducible repeat (first|apply bA_|apply bN_|apply bD_)); refine blk_far ?_ NB335_345.out _; (with_reducible repeat (first|apply bA_|apply bN_|apply bD_)); refine blk_far ?_ NB335_345.out _; (with_reducible repeat (first|apply bA_|apply bN_|apply bD_)); refine blk_far ?_ NB335_345.out _; (with_reducible repeat (first|apply bA_|apply bN_|apply bD_)); refine blk_far ?_ NB335_345.out _; (with_reducible repeat (first|apply bA_|apply bN_|apply bD_)); refine blk_far ?_ NB335_345.out _; (with_reducible repeat (first|apply bA_|apply bN_|apply bD_)); exact BK335.out) hb); replace BK345 := A_ (blk_below (g := gb345) (o := .cells #[.int .i64 a1, .int .i64 (wrap64 (a1 + 1)), .slice Ao53 t336.length co53, .slice Ao52 t339.length co52, .slice Ao51 t342.length co51, .bool false] 41 (0, 0)) (by (with_reducible repeat (first|apply bA_|apply bN_|apply bD_)); refine blk_put (cs := #[.int .i64 a1, .int .i64 (wrap64 (a1 + 1)), .slice Ao53 t336.length co53, .slice Ao52 t339.length co52, .slice Ao51 t342.length co51, .bool false]) ?_ 5 _ rfl; (with_reducible repeat (first|apply bA_|apply bN_|apply bD_)); refine blk_put (cs := #[.int .i64 a1, .int .i64 (wrap64 (a1 + 1)), .slice Ao53 t336.length co53, .slice Ao52 t339.length co52, .slice none 0 0, .bool false]) ?_ 4 _ rfl; (with_reducible repeat (first|apply bA_|apply bN_|apply bD_)); refine blk_put (cs := #[.int .i64 a1, .int .i64 (wrap64 (a1 + 1)), .slice Ao53 t336.length co53, .slice none 0 0, .slice none 0 0, .bool false]) ?_ 3 _ rfl; (with_reducible repeat (first|apply bA_|apply bN_|apply bD_)); refine blk_put (cs := #[.int .i64 a1, .int .i64 (wrap64 (a1 + 1)), .slice none 0 0, .slice none 0 0, .slice none 0 0, .bool false]) ?_ 2 _ rfl; (with_reducible repeat (first|apply bA_|apply bN_|apply bD_)); refine blk_put (cs := #[.int .i64 a1, .int .i64 0, .slice none 0 0, .slice none 0 0, .slice none 0 0, .bool false]) ?_ 1 _ rfl; (with_reducible repeat (first|apply bA_|apply bN_|apply bD_)); refine blk_put (cs := #[.int .i64 0, .int .i64 0, .slice none 0 0, .slice none 0 0, .slice none 0 0, .bool false]) ?_ 0 _ rfl; (with_reducible repeat (first|apply bA_|apply bN_|apply bD_)); exact BK345.out) hb); replace HB := A_ (below_step (hB_ w) hb); clear hb ho58; obtain ⟨Ao59, co59, eo59⟩ := Kd.R_slice HO354.out; subst eo59) | ((with_reducible refine gate_callee (f := 58) rfl ?_); refine goesL_ (some 53) rfl rfl Try.func58 (by kernel_rfl) rfl #[.slice Ao59 y352.length co59] rfl (by (try simp only [List.map_toArray, List.map_cons, List.map_nil]); first | done | rfl | (simp only [List.length_drop, List.length_take]; rfl)) ?_; (with_reducible refine (tallystickref17_num.calls kj7 _ _ y352 t355 _ ?side1 ?side2 A45.out).mono ?_); (case side1 => repeat (first | exact (Kd.R_reads' HO354.out).2.2 | (with_reducible refine Kd.C_alloc ?_ _) | (with_reducible refine Kd.C_drewN ?_ _) | (with_reducible refine Kd.C_drew ?_))); (case side2 => exact (Kd.R_reads' HO354.out).2.1); rintro e w60 ⟨v356, rfl, ho0, hb⟩; refine ⟨_, rfl, ?_⟩; have HO357 := A_ (Kd.R_lower (Kd.R_new' (Kd.R_new' (Kd.R_new' (Kd.R_new' ho0 (Kd.R_lt (r_ HO338))) (Kd.R_lt (r_ HO341))) (Kd.R_lt (r_ HO344))) (Kd.R_lt (r_ HO354))) (below_size (hB_ w))); replace HO338 := A_ (Kd.R_elder' (r_ HO338) (Kd.R_base ho0) hb); replace HO341 := A_ (Kd.R_elder' (r_ HO341) (Kd.R_base ho0) hb); replace HO344 := A_ (Kd.R_elder' (r_ HO344) (Kd.R_base ho0) hb); replace HO354 := A_ (Kd.R_elder' (r_ HO354) (Kd.R_base ho0) hb); replace BK335 := A_ (blk_below (g := gb335) (b_ BK335) hb); replace BK345 := A_ (blk_below (g := gb345) (b_ BK345) hb); replace HB := A_ (below_step (hB_ w) hb); (try clear hb); (try clear hb2); (try clear hk); (try clear hi); (try clear ho0); obtain ⟨Ao61, co61, eo61⟩ := Kd.R_slice HO357.out; subst eo61; obtain ⟨hcz62_0, hcz62_1, hcz62_2, hcz62_3, hcz62_4, hcz62_5, hfz62_0, hfz62_1, hfz62_2, hfz62_3, hfz62_4, hfz62_5⟩ := cf6_ BK345) | ((with_reducible refine gate_dst (N := 58) rfl ?_); refine Kd.R_lit (Kd.int .u64) _ 57 ?hg (N := 58) ?hd (xs := ([IntKind.u64.wrap (a1), IntKind.u64.wrap (a1), IntKind.u64.wrap (a1), 10939058860032000] : List Int)) (inner := [.int .u64 (IntKind.u64.wrap (a1)), .int .u64 (IntKind.u64.wrap (a1)), .int .u64 (IntKind.u64.wrap (a1)), .int .u64 10939058860032000]) (ok := fun _ => True) (okp := fun _ => True) ?hr ?hp (fun _ hk => hk) trivial (Below.refl _ _) (Nat.le_refl _) (by simp) ?_; (case hd => rfl); (case hg => rfl); (case hr => first | (go_simp; done) | (go_simp; rfl)); (case hp => exact (Reps.one (show Kd.M (Kd.int .u64) _ _ _ (IntKind.u64.wrap (a1)) [.int .u64 (IntKind.u64.wrap (a1))] from rfl) (Reps.one (show Kd.M (Kd.int .u64) _ _ _ (IntKind.u64.wrap (a1)) [.int .u64 (IntKind.u64.wrap (a1))] from rfl) (Reps.one (show Kd.M (Kd.int .u64) _ _ _ (IntKind.u64.wrap (a1)) [.int .u64 (IntKind.u64.wrap (a1))] from rfl) (Reps.one (show Kd.M (Kd.int .u64) _ _ _ 10939058860032000 [.int .u64 10939058860032000] from rfl) (Reps.none _ _)))))); intro v359 w63 ho64 hb hg_ hnew_; clear hg_ hnew_; (first | rw [← Ny358.out] at ho64 | (simp only [Int.reduceToNat] at ho64; rw [← Ny358.out] at ho64)); have HO360 := A_ (Kd.R_lower (Kd.R_new' (Kd.R_new' (Kd.R_new' (Kd.R_new' (Kd.R_new' ho64 (Kd.R_lt (by (with_reducible repeat (first|apply rA_|apply rN_|apply rD_)); exact (Kd.R_mono (Kd.R_far (p := ⟨gb345, 2, none⟩) (Kd.R_types HO338.out BK345.out (by decide)) (fun _ hk => hk.2) (.slice Ao61 t355.length co61)) (fun _ h_ => h_.1))))) (Kd.R_lt (by (with_reducible repeat (first|apply rA_|apply rN_|apply rD_)); exact (Kd.R_mono (Kd.R_far (p := ⟨gb345, 2, none⟩) (Kd.R_types HO341.out BK345.out (by decide)) (fun _ hk => hk.2) (.slice Ao61 t355.length co61)) (fun _ h_ => h_.1))))) (Kd.R_lt (by (with_reducible repeat (first|apply rA_|apply rN_|apply rD_)); exact (Kd.R_mono (Kd.R_far (p := ⟨gb345, 2, none⟩) (Kd.R_types HO344.out BK345.out (by decide)) (fun _ hk => hk.2) (.slice Ao61 t355.length co61)) (fun _ h_ => h_.1))))) (Kd.R_lt (by (with_reducible repeat (first|apply rA_|apply rN_|apply rD_)); exact (Kd.R_mono (Kd.R_far (p := ⟨gb345, 2, none⟩) (Kd.R_types HO354.out BK345.out (by decide)) (fun _ hk => hk.2) (.slice Ao61 t355.length co61)) (fun _ h_ => h_.1))))) (Kd.R_lt (by (with_reducible repeat (first|apply rA_|apply rN_|apply rD_)); exact (Kd.R_mono (Kd.R_far (p := ⟨gb345, 2, none⟩) (Kd.R_types HO357.out BK345.out (by decide)) (fun _ hk => hk.2) (.slice Ao61 t355.length co61)) (fun _ h_ => h_.1))))) (below_size (hB_ w))); replace HO338 := A_ (Kd.R_elder' (by (with_reducible repeat (first|apply rA_|apply rN_|apply rD_)); exact (Kd.R_mono (Kd.R_far (p := ⟨gb345, 2, none⟩) (Kd.R_types HO338.out BK345.out (by decide)) (fun _ hk => hk.2) (.slice Ao61 t355.length co61)) (fun _ h_ => h_.1))) (Kd.R_base ho64) hb); replace HO341 := A_ (Kd.R_elder' (by (with_reducible repeat (first|apply rA_|apply rN_|apply rD_)); exact (Kd.R_mono (Kd.R_far (p := ⟨gb345, 2, none⟩) (Kd.R_types HO341.out BK345.out (by decide)) (fun _ hk => hk.2) (.slice Ao61 t355.length co61)) (fun _ h_ => h_.1))) (Kd.R_base ho64) hb); replace HO344 := A_ (Kd.R_elder' (by (with_reducible repeat (first|apply rA_|apply rN_|apply rD_)); exact (Kd.R_mono (Kd.R_far (p := ⟨gb345, 2, none⟩) (Kd.R_types HO344.out BK345.out (by decide)) (fun _ hk => hk.2) (.slice Ao61 t355.length co61)) (fun _ h_ => h_.1))) (Kd.R_base ho64) hb); replace HO354 := A_ (Kd.R_elder' (by (with_reducible repeat (first|apply rA_|apply rN_|apply rD_)); exact (Kd.R_mono (Kd.R_far (p := ⟨gb345, 2, none⟩) (Kd.R_types HO354.out BK345.out (by decide)) (fun _ hk => hk.2) (.slice Ao61 t355.length co61)) (fun _ h_ => h_.1))) (Kd.R_base ho64) hb); replace HO357 := A_ (Kd.R_elder' (by (with_reducible repeat (first|apply rA_|apply rN_|apply rD_)); exact (Kd.R_mono (Kd.R_far (p := ⟨gb345, 2, none⟩) (Kd.R_types HO357.out BK345.out (by decide)) (fun _ hk => hk.2) (.slice Ao61 t355.length co61)) (fun _ h_ => h_.1))) (Kd.R_base ho64) hb); replace BK335 := A_ (blk_below (g := gb335) (o := .cells #[.int .i64 0, .int .i64 0, .slice none 0 0, .slice none 0 0, .slice none 0 0, .bool false] 41 (0, 0)) (by (with_reducible repeat (first|apply bA_|apply bN_|apply bD_)); refine blk_far ?_ NB335_345.out _; (with_reducible repeat (first|apply bA_|apply bN_|apply bD_)); exact BK335.out) hb); replace BK345 := A_ (blk_below (g := gb345) (o := .cells #[.int .i64 a1, .int .i64 (wrap64 (a1 + 1)), .slice Ao61 t355.length co61, .slice Ao52 t339.length co52, .slice Ao51 t342.length co51, .bool false] 41 (0, 0)) (by (with_reducible repeat (first|apply bA_|apply bN_|apply bD_)); refine blk_put (cs := #[.int .i64 a1, .int .i64 (wrap64 (a1 + 1)), .slice Ao53 t336.length co53, .slice Ao52 t339.length co52, .slice Ao51 t342.length co51, .bool false]) ?_ 2 _ rfl; (with_reducible repeat (first|apply bA_|apply bN_|apply bD_)); exact BK345.out) hb); replace HB := A_ (below_step (hB_ w) hb); clear hb ho64; obtain ⟨Ao65, co65, eo65⟩ := Kd.R_slice HO360.out; subst eo65) | ((with_reducible refine gate_callee (f := 58) rfl ?_); refine goesL_ (some 59) rfl rfl Try.func58 (by kernel_rfl) rfl #[.slice Ao65 y358.length co65] rfl (by (try simp only [List.map_toArray, List.map_cons, List.map_nil]); first | done | rfl | (simp only [List.length_drop, List.length_take]; rfl)) ?_; (with_reducible refine (tallystickref17_num.calls kj7 _ _ y358 t361 _ ?side1 ?side2 A46.out).mono ?_); (case side1 => repeat (first | exact (Kd.R_reads' HO360.out).2.2 | (with_reducible refine Kd.C_alloc ?_ _) | (with_reducible refine Kd.C_drewN ?_ _) | (with_reducible refine Kd.C_drew ?_))); (case side2 => exact (Kd.R_reads' HO360.out).2.1); rintro e w66 ⟨v362, rfl, ho0, hb⟩; refine ⟨_, rfl, ?_⟩; have HO363 := A_ (Kd.R_lower (Kd.R_new' (Kd.R_new' (Kd.R_new' (Kd.R_new' (Kd.R_new' (Kd.R_new' ho0 (Kd.R_lt (r_ HO338))) (Kd.R_lt (r_ HO341))) (Kd.R_lt (r_ HO344))) (Kd.R_lt (r_ HO354))) (Kd.R_lt (r_ HO357))) (Kd.R_lt (r_ HO360))) (below_size (hB_ w))); replace HO338 := A_ (Kd.R_elder' (r_ HO338) (Kd.R_base ho0) hb); replace HO341 := A_ (Kd.R_elder' (r_ HO341) (Kd.R_base ho0) hb); replace HO344 := A_ (Kd.R_elder' (r_ HO344) (Kd.R_base ho0) hb); replace HO354 := A_ (Kd.R_elder' (r_ HO354) (Kd.R_base ho0) hb); replace HO357 := A_ (Kd.R_elder' (r_ HO357) (Kd.R_base ho0) hb); replace HO360 := A_ (Kd.R_elder' (r_ HO360) (Kd.R_base ho0) hb); replace BK335 := A_ (blk_below (g := gb335) (b_ BK335) hb); replace BK345 := A_ (blk_below (g := gb345) (b_ BK345) hb); replace HB := A_ (below_step (hB_ w) hb); (try clear hb); (try clear hb2); (try clear hk); (try clear hi); (try clear ho0); obtain ⟨Ao67, co67, eo67⟩ := Kd.R_slice HO363.out; subst eo67; obtain ⟨hcz68_0, hcz68_1, hcz68_2, hcz68_3, hcz68_4, hcz68_5, hfz68_0, hfz68_1, hfz68_2, hfz68_3, hfz68_4, hfz68_5⟩ := cf6_ BK345) | ((with_reducible refine gate_dst (N := 66) rfl ?_); refine Kd.R_lit (Kd.int .u64) _ 57 ?hg (N := 66) ?hd (xs := ([IntKind.u64.wrap (13591409 + (IntKind.u64.wrap (545140134 * (IntKind.u64.wrap (a1)))))] : List Int)) (inner := [.int .u64 (IntKind.u64.wrap (13591409 + (IntKind.u64.wrap (545140134 * (IntKind.u64.wrap (a1))))))]) (ok := fun _ => True) (okp := fun _ => True) ?hr ?hp (fun _ hk => hk) trivial (Below.refl _ _) (Nat.le_refl _) (by simp) ?_; (case hd => rfl); (case hg => rfl); (case hr => first | (go_simp; done) | (go_simp; rfl)); (case hp => exact (Reps.one (show Kd.M (Kd.int .u64) _ _ _ (IntKind.u64.wrap (13591409 + (IntKind.u64.wrap (545140134 * (IntKind.u64.wrap (a1)))))) [.int .u64 (IntKind.u64.wrap (13591409 + (IntKind.u64.wrap (545140134 * (IntKind.u64.wrap (a1))))))] from rfl) (Reps.none _ _))); intro v365 w69 ho70 hb hg_ hnew_; clear hg_ hnew_; (first | rw [← Ny364.out] at ho70 | (simp only [Int.reduceToNat] at ho70; rw [← Ny364.out] at ho70)); have HO366 := A_ (Kd.R_lower (Kd.R_new' (Kd.R_new' (Kd.R_new' (Kd.R_new' (Kd.R_new' (Kd.R_new' (Kd.R_new' ho70 (Kd.R_lt (by (with_reducible repeat (first|apply rA_|apply rN_|apply rD_)); exact (Kd.R_mono (Kd.R_far (p := ⟨gb345, 3, none⟩) (Kd.R_types HO338.out BK345.out (by decide)) (fun _ hk => hk.2) (.slice Ao67 t361.length co67)) (fun _ h_ => h_.1))))) (Kd.R_lt (by (with_reducible repeat (first|apply rA_|apply rN_|apply rD_)); exact (Kd.R_mono (Kd.R_far (p := ⟨gb345, 3, none⟩) (Kd.R_types HO341.out BK345.out (by decide)) (fun _ hk => hk.2) (.slice Ao67 t361.length co67)) (fun _ h_ => h_.1))))) (Kd.R_lt (by (with_reducible repeat (first|apply rA_|apply rN_|apply rD_)); exact (Kd.R_mono (Kd.R_far (p := ⟨gb345, 3, none⟩) (Kd.R_types HO344.out BK345.out (by decide)) (fun _ hk => hk.2) (.slice Ao67 t361.length co67)) (fun _ h_ => h_.1))))) (Kd.R_lt (by (with_reducible repeat (first|apply rA_|apply rN_|apply rD_)); exact (Kd.R_mono (Kd.R_far (p := ⟨gb345, 3, none⟩) (Kd.R_types HO354.out BK345.out (by decide)) (fun _ hk => hk.2) (.slice Ao67 t361.length co67)) (fun _ h_ => h_.1))))) (Kd.R_lt (by (with_reducible repeat (first|apply rA_|apply rN_|apply rD_)); exact (Kd.R_mono (Kd.R_far (p := ⟨gb345, 3, none⟩) (Kd.R_types HO357.out BK345.out (by decide)) (fun _ hk => hk.2) (.slice Ao67 t361.length co67)) (fun _ h_ => h_.1))))) (Kd.R_lt (by (with_reducible repeat (first|apply rA_|apply rN_|apply rD_)); exact (Kd.R_mono (Kd.R_far (p := ⟨gb345, 3, none⟩) (Kd.R_types HO360.out BK345.out (by decide)) (fun _ hk => hk.2) (.slice Ao67 t361.length co67)) (fun _ h_ => h_.1))))) (Kd.R_lt (by (with_reducible repeat (first|apply rA_|apply rN_|apply rD_)); exact (Kd.R_mono (Kd.R_far (p := ⟨gb345, 3, none⟩) (Kd.R_types HO363.out BK345.out (by decide)) (fun _ hk => hk.2) (.slice Ao67 t361.length co67)) (fun _ h_ => h_.1))))) (below_size (hB_ w))); replace HO338 := A_ (Kd.R_elder' (by (with_reducible repeat (first|apply rA_|apply rN_|apply rD_)); exact (Kd.R_mono (Kd.R_far (p := ⟨gb345, 3, none⟩) (Kd.R_types HO338.out BK345.out (by decide)) (fun _ hk => hk.2) (.slice Ao67 t361.length co67)) (fun _ h_ => h_.1))) (Kd.R_base ho70) hb); replace HO341 := A_ (Kd.R_elder' (by (with_reducible repeat (first|apply rA_|apply rN_|apply rD_)); exact (Kd.R_mono (Kd.R_far (p := ⟨gb345, 3, none⟩) (Kd.R_types HO341.out BK345.out (by decide)) (fun _ hk => hk.2) (.slice Ao67 t361.length co67)) (fun _ h_ => h_.1))) (Kd.R_base ho70) hb); replace HO344 := A_ (Kd.R_elder' (by (with_reducible repeat (first|apply rA_|apply rN_|apply rD_)); exact (Kd.R_mono (Kd.R_far (p := ⟨gb345, 3, none⟩) (Kd.R_types HO344.out BK345.out (by decide)) (fun _ hk => hk.2) (.slice Ao67 t361.length co67)) (fun _ h_ => h_.1))) (Kd.R_base ho70) hb); replace HO354 := A_ (Kd.R_elder' (by (with_reducible repeat (first|apply rA_|apply rN_|apply rD_)); exact (Kd.R_mono (Kd.R_far (p := ⟨gb345, 3, none⟩) (Kd.R_types HO354.out BK345.out (by decide)) (fun _ hk => hk.2) (.slice Ao67 t361.length co67)) (fun _ h_ => h_.1))) (Kd.R_base ho70) hb); replace HO357 := A_ (Kd.R_elder' (by (with_reducible repeat (first|apply rA_|apply rN_|apply rD_)); exact (Kd.R_mono (Kd.R_far (p := ⟨gb345, 3, none⟩) (Kd.R_types HO357.out BK345.out (by decide)) (fun _ hk => hk.2) (.slice Ao67 t361.length co67)) (fun _ h_ => h_.1))) (Kd.R_base ho70) hb); replace HO360 := A_ (Kd.R_elder' (by (with_reducible repeat (first|apply rA_|apply rN_|apply rD_)); exact (Kd.R_mono (Kd.R_far (p := ⟨gb345, 3, none⟩) (Kd.R_types HO360.out BK345.out (by decide)) (fun _ hk => hk.2) (.slice Ao67 t361.length co67)) (fun _ h_ => h_.1))) (Kd.R_base ho70) hb); replace HO363 := A_ (Kd.R_elder' (by (with_reducible repeat (first|apply rA_|apply rN_|apply rD_)); exact (Kd.R_mono (Kd.R_far (p := ⟨gb345, 3, none⟩) (Kd.R_types HO363.out BK345.out (by decide)) (fun _ hk => hk.2) (.slice Ao67 t361.length co67)) (fun _ h_ => h_.1))) (Kd.R_base ho70) hb); replace BK335 := A_ (blk_below (g := gb335) (o := .cells #[.int .i64 0, .int .i64 0, .slice none 0 0, .slice none 0 0, .slice none 0 0, .bool false] 41 (0, 0)) (by (with_reducible repeat (first|apply bA_|apply bN_|apply bD_)); refine blk_far ?_ NB335_345.out _; (with_reducible repeat (first|apply bA_|apply bN_|apply bD_)); exact BK335.out) hb); replace BK345 := A_ (blk_below (g := gb345) (o := .cells #[.int .i64 a1, .int .i64 (wrap64 (a1 + 1)), .slice Ao61 t355.length co61, .slice Ao67 t361.length co67, .slice Ao51 t342.length co51, .bool false] 41 (0, 0)) (by (with_reducible repeat (first|apply bA_|apply bN_|apply bD_)); refine blk_put (cs := #[.int .i64 a1, .int .i64 (wrap64 (a1 + 1)), .slice Ao61 t355.length co61, .slice Ao52 t339.length co52, .slice Ao51 t342.length co51, .bool false]) ?_ 3 _ rfl; (with_reducible repeat (first|apply bA_|apply bN_|apply bD_)); exact BK345.out) hb); replace HB := A_ (below_step (hB_ w) hb); clear hb ho70; obtain ⟨Ao71, co71, eo71⟩ := Kd.R_slice HO366.out; subst eo71) | ((with_reducible refine gate_callee (f := 59) rfl ?_); refine goesL_ (some 67) rfl rfl Try.func59 (by kernel_rfl) rfl #[.slice Ao61 t355.length co61, .slice Ao71 y364.length co71] rfl (by (try simp only [List.map_toArray, List.map_cons, List.map_nil]); first | done | rfl | (simp only [List.length_drop, List.length_take]; rfl)) ?_; (with_reducible refine (tallystickref05_Times.calls kj7 _ _ t355 _ _ y364 t367 _ ?side1 ?side2 ?side3 ?side4 A47.out).mono ?_); (case side1 => repeat (first | exact (Kd.R_reads' HO357.out).2.2 | (with_reducible refine Kd.C_alloc ?_ _) | (with_reducible refine Kd.C_drewN ?_ _) | (with_reducible refine Kd.C_drew ?_))); (case side2 => exact (Kd.R_reads' HO357.out).2.1); (case side3 => repeat (first | exact (Kd.R_reads' HO366.out).2.2 | (with_reducible refine Kd.C_alloc ?_ _) | (with_reducible refine Kd.C_drewN ?_ _) | (with_reducible refine Kd.C_drew ?_))); (case side4 => exact (Kd.R_reads' HO366.out).2.1); rintro e w72 ⟨v368, rfl, ho0, hb⟩; refine ⟨_, rfl, ?_⟩; have HO369 := A_ (Kd.R_lower (Kd.R_new' (Kd.R_new' (Kd.R_new' (Kd.R_new' (Kd.R_new' (Kd.R_new' (Kd.R_new' (Kd.R_new' ho0 (Kd.R_lt (r_ HO338))) (Kd.R_lt (r_ HO341))) (Kd.R_lt (r_ HO344))) (Kd.R_lt (r_ HO354))) (Kd.R_lt (r_ HO357))) (Kd.R_lt (r_ HO360))) (Kd.R_lt (r_ HO363))) (Kd.R_lt (r_ HO366))) (below_size (hB_ w))); replace HO338 := A_ (Kd.R_elder' (r_ HO338) (Kd.R_base ho0) hb); replace HO341 := A_ (Kd.R_elder' (r_ HO341) (Kd.R_base ho0) hb); replace HO344 := A_ (Kd.R_elder' (r_ HO344) (Kd.R_base ho0) hb); replace HO354 := A_ (Kd.R_elder' (r_ HO354) (Kd.R_base ho0) hb); replace HO357 := A_ (Kd.R_elder' (r_ HO357) (Kd.R_base ho0) hb); replace HO360 := A_ (Kd.R_elder' (r_ HO360) (Kd.R_base ho0) hb); replace HO363 := A_ (Kd.R_elder' (r_ HO363) (Kd.R_base ho0) hb); replace HO366 := A_ (Kd.R_elder' (r_ HO366) (Kd.R_base ho0) hb); replace BK335 := A_ (blk_below (g := gb335) (b_ BK335) hb); replace BK345 := A_ (blk_below (g := gb345) (b_ BK345) hb); replace HB := A_ (below_step (hB_ w) hb); (try clear hb); (try clear hb2); (try clear hk); (try clear hi); (try clear ho0); obtain ⟨Ao73, co73, eo73⟩ := Kd.R_slice HO369.out; subst eo73; obtain ⟨hcz74_0, hcz74_1, hcz74_2, hcz74_3, hcz74_4, hcz74_5, hfz74_0, hfz74_1, hfz74_2, hfz74_3, hfz74_4, hfz74_5⟩ := cf6_ BK345; obtain ⟨hcz75_0, hcz75_1, hcz75_2, hcz75_3, hcz75_4, hcz75_5, hfz75_0, hfz75_1, hfz75_2, hfz75_3, hfz75_4, hfz75_5⟩ := cf6_ BK335))
      refine bodyPost_ret (results_ct rfl _ _ gb335 41 #[.int .i64 a1, .int .i64 (wrap64 (a1 + 1)), .slice Ao61 t355.length co61, .slice Ao67 t361.length co67, .slice Ao73 t367.length co73, .bool ((Int.tmod a1 2) == 1)] (0, 0) _ rfl (by (with_reducible repeat (first|apply bA_|apply bN_|apply bD_)); refine blk_put (cs := #[.int .i64 a1, .int .i64 (wrap64 (a1 + 1)), .slice Ao61 t355.length co61, .slice Ao67 t361.length co67, .slice Ao73 t367.length co73, .bool false]) ?_ 5 _ rfl; (with_reducible repeat (first|apply bA_|apply bN_|apply bD_)); refine blk_put (cs := #[.int .i64 a1, .int .i64 (wrap64 (a1 + 1)), .slice Ao61 t355.length co61, .slice Ao67 t361.length co67, .slice none 0 0, .bool false]) ?_ 4 _ rfl; (with_reducible repeat (first|apply bA_|apply bN_|apply bD_)); refine blk_put (cs := #[.int .i64 a1, .int .i64 (wrap64 (a1 + 1)), .slice Ao61 t355.length co61, .slice none 0 0, .slice none 0 0, .bool false]) ?_ 3 _ rfl; (with_reducible repeat (first|apply bA_|apply bN_|apply bD_)); refine blk_put (cs := #[.int .i64 a1, .int .i64 (wrap64 (a1 + 1)), .slice none 0 0, .slice none 0 0, .slice none 0 0, .bool false]) ?_ 2 _ rfl; (with_reducible repeat (first|apply bA_|apply bN_|apply bD_)); refine blk_put (cs := #[.int .i64 a1, .int .i64 0, .slice none 0 0, .slice none 0 0, .slice none 0 0, .bool false]) ?_ 1 _ rfl; (with_reducible repeat (first|apply bA_|apply bN_|apply bD_)); refine blk_put (cs := #[.int .i64 0, .int .i64 0, .slice none 0 0, .slice none 0 0, .slice none 0 0, .bool false]) ?_ 0 _ rfl; (with_reducible repeat (first|apply bA_|apply bN_|apply bD_)); refine blk_far ?_ NB335_345.out _; (with_reducible repeat (first|apply bA_|apply bN_|apply bD_)); refine blk_far ?_ NB335_345.out _; (with_reducible repeat (first|apply bA_|apply bN_|apply bD_)); exact BK335.out) Try.underlying41 rfl (by kernel_rfl)) rfl ?_
      exact ⟨_, _, _, by first | rfl | (simp [errW_none, errW_some] <;> rfl) | (simp [*, errW_none, errW_some] <;> rfl), by (with_reducible repeat (first|apply rA_|apply rN_|apply rD_)); exact Kd.R_mono (Kd.R_far (p := ⟨gb335, 5, none⟩) (Kd.R_far (p := ⟨gb335, 4, none⟩) (Kd.R_far (p := ⟨gb335, 3, none⟩) (Kd.R_far (p := ⟨gb335, 2, none⟩) (Kd.R_far (p := ⟨gb335, 1, none⟩) (Kd.R_far (p := ⟨gb335, 0, none⟩) (Kd.R_far (p := ⟨gb345, 5, none⟩) (Kd.R_far (p := ⟨gb345, 4, none⟩) (Kd.R_types (Kd.R_types HO357.out BK345.out (by decide)) BK335.out (by decide)) (fun _ hk => hk.1.2) (.slice Ao73 t367.length co73)) (fun _ hk => hk.1.2) (.bool ((Int.tmod a1 2) == 1))) (fun _ hk => hk.2) (.int .i64 a1)) (fun _ hk => hk.2) (.int .i64 (wrap64 (a1 + 1)))) (fun _ hk => hk.2) (.slice Ao61 t355.length co61)) (fun _ hk => hk.2) (.slice Ao67 t361.length co67)) (fun _ hk => hk.2) (.slice Ao73 t367.length co73)) (fun _ hk => hk.2) (.bool ((Int.tmod a1 2) == 1))) (fun _ hk => ⟨hk.1.1.1.1.2, hk.1.1.2⟩), by (with_reducible repeat (first|apply rA_|apply rN_|apply rD_)); exact Kd.R_mono (Kd.R_far (p := ⟨gb335, 5, none⟩) (Kd.R_far (p := ⟨gb335, 4, none⟩) (Kd.R_far (p := ⟨gb335, 3, none⟩) (Kd.R_far (p := ⟨gb335, 2, none⟩) (Kd.R_far (p := ⟨gb335, 1, none⟩) (Kd.R_far (p := ⟨gb335, 0, none⟩) (Kd.R_far (p := ⟨gb345, 5, none⟩) (Kd.R_far (p := ⟨gb345, 4, none⟩) (Kd.R_types (Kd.R_types HO363.out BK345.out (by decide)) BK335.out (by decide)) (fun _ hk => hk.1.2) (.slice Ao73 t367.length co73)) (fun _ hk => hk.1.2) (.bool ((Int.tmod a1 2) == 1))) (fun _ hk => hk.2) (.int .i64 a1)) (fun _ hk => hk.2) (.int .i64 (wrap64 (a1 + 1)))) (fun _ hk => hk.2) (.slice Ao61 t355.length co61)) (fun _ hk => hk.2) (.slice Ao67 t361.length co67)) (fun _ hk => hk.2) (.slice Ao73 t367.length co73)) (fun _ hk => hk.2) (.bool ((Int.tmod a1 2) == 1))) (fun _ hk => ⟨hk.1.1.1.1.1.2, hk.1.1.2⟩), by (with_reducible repeat (first|apply rA_|apply rN_|apply rD_)); exact Kd.R_mono (Kd.R_far (p := ⟨gb335, 5, none⟩) (Kd.R_far (p := ⟨gb335, 4, none⟩) (Kd.R_far (p := ⟨gb335, 3, none⟩) (Kd.R_far (p := ⟨gb335, 2, none⟩) (Kd.R_far (p := ⟨gb335, 1, none⟩) (Kd.R_far (p := ⟨gb335, 0, none⟩) (Kd.R_far (p := ⟨gb345, 5, none⟩) (Kd.R_far (p := ⟨gb345, 4, none⟩) (Kd.R_types (Kd.R_types HO369.out BK345.out (by decide)) BK335.out (by decide)) (fun _ hk => hk.1.2) (.slice Ao73 t367.length co73)) (fun _ hk => hk.1.2) (.bool ((Int.tmod a1 2) == 1))) (fun _ hk => hk.2) (.int .i64 a1)) (fun _ hk => hk.2) (.int .i64 (wrap64 (a1 + 1)))) (fun _ hk => hk.2) (.slice Ao61 t355.length co61)) (fun _ hk => hk.2) (.slice Ao67 t361.length co67)) (fun _ hk => hk.2) (.slice Ao73 t367.length co73)) (fun _ hk => hk.2) (.bool ((Int.tmod a1 2) == 1))) (fun _ hk => ⟨hk.1.1.1.1.1.2, hk.1.1.1.2⟩), hB_ w⟩
     rw [if_neg c44] at H
     have c44b0 : decide (0 < a1) = false := decide_eq_false c44
     clear c44
     obtain ⟨y370, hy370⟩ : ∃ y_ : List Int, y_ = (([IntKind.u64.wrap (13591409 + (IntKind.u64.wrap (545140134 * (IntKind.u64.wrap (a1)))))] : List Int)) := ⟨_, rfl⟩
     replace H : ((tallystickref05_Times.f kj7 t336 y370).bind fun t373 => (some (a1, wrap64 (a1 + 1), t336, t339, t373, ((Int.tmod a1 2) == 1), 0))) = some (r1, r2, r3, r4, r5, r6, r7) := by first | (rw [hy370]; with_reducible exact H) | (have H2_ := (Option.bind_some _ _).symm.trans H; rw [hy370]; with_reducible exact H2_) | (have H2_ := (Option.bind_some _ _).symm.trans H; with_reducible exact H2_) | with_reducible exact H | (rw [hy370]; exact H) | exact H
     have Ny370 := A_ hy370; clear hy370
     replace H := Option.bind_eq_some_iff.mp H
     obtain ⟨t373, A760, H⟩ := H
     replace H : (some (a1, wrap64 (a1 + 1), t336, t339, t373, ((Int.tmod a1 2) == 1), 0)) = some (r1, r2, r3, r4, r5, r6, r7) := H
     have A76 := A_ A760; clear A760
     simp only [Option.some.injEq, Prod.mk.injEq] at H
     obtain ⟨rfl, rfl, rfl, rfl, rfl, rfl, rfl⟩ := H
     go_wp2_with (first | ((with_reducible refine gate_callee (f := 58) rfl ?_); refine goesL_ (some 28) rfl rfl Try.func58 (by kernel_rfl) rfl #[.slice none 0 0] rfl (by (try simp only [List.map_toArray, List.map_cons, List.map_nil]); first | done | rfl | (simp only [List.length_drop, List.length_take]; rfl)) ?_; (refine (tallystickref17_num.calls kj7 _ _ ([] : List Int) t336 _ ?side1 ?side2 A12.out).mono ?_); (case side1 => exact Kd.C_nil _ _); (case side2 => exact Nat.le_refl _); rintro e w77 ⟨v337, rfl, ho0, hb⟩; refine ⟨_, rfl, ?_⟩; have HO338 := A_ (Kd.R_lower ho0 (below_size (hB_ w))); replace BK335 := A_ (blk_below (g := gb335) (b_ BK335) hb); replace HB := A_ (below_step (hB_ w) hb); (try clear hb); (try clear hb2); (try clear hk); (try clear hi); (try clear ho0)) | ((with_reducible refine gate_callee (f := 58) rfl ?_); refine goesL_ (some 29) rfl rfl Try.func58 (by kernel_rfl) rfl #[.slice none 0 0] rfl (by (try simp only [List.map_toArray, List.map_cons, List.map_nil]); first | done | rfl | (simp only [List.length_drop, List.length_take]; rfl)) ?_; (refine (tallystickref17_num.calls kj7 _ _ ([] : List Int) t339 _ ?side1 ?side2 A13.out).mono ?_); (case side1 => exact Kd.C_nil _ _); (case side2 => exact Nat.le_refl _); rintro e w78 ⟨v340, rfl, ho0, hb⟩; refine ⟨_, rfl, ?_⟩; have HO341 := A_ (Kd.R_lower (Kd.R_new' ho0 (Kd.R_lt (r_ HO338))) (below_size (hB_ w))); replace HO338 := A_ (Kd.R_elder' (r_ HO338) (Kd.R_base ho0) hb); replace BK335 := A_ (blk_below (g := gb335) (b_ BK335) hb); replace HB := A_ (below_step (hB_ w) hb); (try clear hb); (try clear hb2); (try clear hk); (try clear hi); (try clear ho0)) | ((with_reducible refine gate_callee (f := 58) rfl ?_); refine goesL_ (some 30) rfl rfl Try.func58 (by kernel_rfl) rfl #[.slice none 0 0] rfl (by (try simp only [List.map_toArray, List.map_cons, List.map_nil]); first | done | rfl | (simp only [List.length_drop, List.length_take]; rfl)) ?_; (refine (tallystickref17_num.calls kj7 _ _ ([] : List Int) t342 _ ?side1 ?side2 A14.out).mono ?_); (case side1 => exact Kd.C_nil _ _); (case side2 => exact Nat.le_refl _); rintro e w79 ⟨v343, rfl, ho0, hb⟩; refine ⟨_, rfl, ?_⟩; have HO344 := A_ (Kd.R_lower (Kd.R_new' (Kd.R_new' ho0 (Kd.R_lt (r_ HO338))) (Kd.R_lt (r_ HO341))) (below_size (hB_ w))); replace HO338 := A_ (Kd.R_elder' (r_ HO338) (Kd.R_base ho0) hb); replace HO341 := A_ (Kd.R_elder' (r_ HO341) (Kd.R_base ho0) hb); replace BK335 := A_ (blk_below (g := gb335) (b_ BK335) hb); replace HB := A_ (below_step (hB_ w) hb); (try clear hb); (try clear hb2); (try clear hk); (try clear hi); (try clear ho0); obtain ⟨Ao80, co80, eo80⟩ := Kd.R_slice HO344.out; subst eo80; obtain ⟨Ao81, co81, eo81⟩ := Kd.R_slice HO341.out; subst eo81; obtain ⟨Ao82, co82, eo82⟩ := Kd.R_slice HO338.out; subst eo82) | ((with_reducible refine gate_dst (N := 7) rfl ?_); refine box_event ?hg (N := 7) ?hd (cs := #[.int .i64 0, .int .i64 0, .slice none 0 0, .slice none 0 0, .slice none 0 0, .bool false]) (t := 41) ?hr ?_; (case hd => rfl); (case hg => rfl); (case hr => first | (go_simp; done) | (go_simp; rfl)); intro gb345 hg w83 hbox hb; replace HO338 := A_ (Kd.R_below (r_ HO338) hb); replace HO341 := A_ (Kd.R_below (r_ HO341) hb); replace HO344 := A_ (Kd.R_below (r_ HO344) hb); have BK345 := A_ hbox; have GW345 := A_ ((by rw [hg]; exact (below_size (hB_ w)) : w.heap.size ≤ gb345)); have GE345 := A_ ((by rw [hg]; exact (below_size (hB_ w)) : w.heap.size ≤ gb345)); replace HB := A_ (below_step (hB_ w) hb); have NB335_345 := A_ ((by rw [hg]; exact Nat.ne_of_lt (blk_lt (g := gb335) (b_ BK335)) : gb335 ≠ gb345)); have NB345_335 := A_ ((by rw [hg]; exact Nat.ne_of_gt (blk_lt (g := gb335) (b_ BK335)) : gb345 ≠ gb335)); replace BK335 := A_ (blk_below (g := gb335) (b_ BK335) hb); clear hb hbox hg; have hnb84 := NB345_335.out; have hnc84 := NB335_345.out; obtain ⟨hcz85_0, hcz85_1, hcz85_2, hcz85_3, hcz85_4, hcz85_5, hfz85_0, hfz85_1, hfz85_2, hfz85_3, hfz85_4, hfz85_5⟩ := cf6_ BK345) | ((with_reducible refine gate_dst (N := 66) rfl ?_); refine Kd.R_lit (Kd.int .u64) _ 57 ?hg (N := 66) ?hd (xs := ([IntKind.u64.wrap (13591409 + (IntKind.u64.wrap (545140134 * (IntKind.u64.wrap (a1)))))] : List Int)) (inner := [.int .u64 (IntKind.u64.wrap (13591409 + (IntKind.u64.wrap (545140134 * (IntKind.u64.wrap (a1))))))]) (ok := fun _ => True) (okp := fun _ => True) ?hr ?hp (fun _ hk => hk) trivial (Below.refl _ _) (Nat.le_refl _) (by simp) ?_; (case hd => rfl); (case hg => rfl); (case hr => first | (go_simp; done) | (go_simp; rfl)); (case hp => exact (Reps.one (show Kd.M (Kd.int .u64) _ _ _ (IntKind.u64.wrap (13591409 + (IntKind.u64.wrap (545140134 * (IntKind.u64.wrap (a1)))))) [.int .u64 (IntKind.u64.wrap (13591409 + (IntKind.u64.wrap (545140134 * (IntKind.u64.wrap (a1))))))] from rfl) (Reps.none _ _))); intro v371 w86 ho87 hb hg_ hnew_; clear hg_ hnew_; (first | rw [← Ny370.out] at ho87 | (simp only [Int.reduceToNat] at ho87; rw [← Ny370.out] at ho87)); have HO372 := A_ (Kd.R_lower (Kd.R_new' (Kd.R_new' (Kd.R_new' ho87 (Kd.R_lt (by (with_reducible repeat (first|apply rA_|apply rN_|apply rD_)); exact (Kd.R_mono (Kd.R_far (p := ⟨gb345, 5, none⟩) (Kd.R_far (p := ⟨gb345, 4, none⟩) (Kd.R_far (p := ⟨gb345, 3, none⟩) (Kd.R_far (p := ⟨gb345, 2, none⟩) (Kd.R_far (p := ⟨gb345, 1, none⟩) (Kd.R_far (p := ⟨gb345, 0, none⟩) (Kd.R_types HO338.out BK345.out (by decide)) (fun _ hk => hk.2) (.int .i64 a1)) (fun _ hk => hk.2) (.int .i64 (wrap64 (a1 + 1)))) (fun _ hk => hk.2) (.slice Ao82 t336.length co82)) (fun _ hk => hk.2) (.slice Ao81 t339.length co81)) (fun _ hk => hk.2) (.slice Ao80 t342.length co80)) (fun _ hk => hk.2) (.bool false)) (fun _ h_ => h_.1))))) (Kd.R_lt (by (with_reducible repeat (first|apply rA_|apply rN_|apply rD_)); exact (Kd.R_mono (Kd.R_far (p := ⟨gb345, 5, none⟩) (Kd.R_far (p := ⟨gb345, 4, none⟩) (Kd.R_far (p := ⟨gb345, 3, none⟩) (Kd.R_far (p := ⟨gb345, 2, none⟩) (Kd.R_far (p := ⟨gb345, 1, none⟩) (Kd.R_far (p := ⟨gb345, 0, none⟩) (Kd.R_types HO341.out BK345.out (by decide)) (fun _ hk => hk.2) (.int .i64 a1)) (fun _ hk => hk.2) (.int .i64 (wrap64 (a1 + 1)))) (fun _ hk => hk.2) (.slice Ao82 t336.length co82)) (fun _ hk => hk.2) (.slice Ao81 t339.length co81)) (fun _ hk => hk.2) (.slice Ao80 t342.length co80)) (fun _ hk => hk.2) (.bool false)) (fun _ h_ => h_.1))))) (Kd.R_lt (by (with_reducible repeat (first|apply rA_|apply rN_|apply rD_)); exact (Kd.R_mono (Kd.R_far (p := ⟨gb345, 5, none⟩) (Kd.R_far (p := ⟨gb345, 4, none⟩) (Kd.R_far (p := ⟨gb345, 3, none⟩) (Kd.R_far (p := ⟨gb345, 2, none⟩) (Kd.R_far (p := ⟨gb345, 1, none⟩) (Kd.R_far (p := ⟨gb345, 0, none⟩) (Kd.R_types HO344.out BK345.out (by decide)) (fun _ hk => hk.2) (.int .i64 a1)) (fun _ hk => hk.2) (.int .i64 (wrap64 (a1 + 1)))) (fun _ hk => hk.2) (.slice Ao82 t336.length co82)) (fun _ hk => hk.2) (.slice Ao81 t339.length co81)) (fun _ hk => hk.2) (.slice Ao80 t342.length co80)) (fun _ hk => hk.2) (.bool false)) (fun _ h_ => h_.1))))) (below_size (hB_ w))); replace HO338 := A_ (Kd.R_elder' (by (with_reducible repeat (first|apply rA_|apply rN_|apply rD_)); exact (Kd.R_mono (Kd.R_far (p := ⟨gb345, 5, none⟩) (Kd.R_far (p := ⟨gb345, 4, none⟩) (Kd.R_far (p := ⟨gb345, 3, none⟩) (Kd.R_far (p := ⟨gb345, 2, none⟩) (Kd.R_far (p := ⟨gb345, 1, none⟩) (Kd.R_far (p := ⟨gb345, 0, none⟩) (Kd.R_types HO338.out BK345.out (by decide)) (fun _ hk => hk.2) (.int .i64 a1)) (fun _ hk => hk.2) (.int .i64 (wrap64 (a1 + 1)))) (fun _ hk => hk.2) (.slice Ao82 t336.length co82)) (fun _ hk => hk.2) (.slice Ao81 t339.length co81)) (fun _ hk => hk.2) (.slice Ao80 t342.length co80)) (fun _ hk => hk.2) (.bool false)) (fun _ h_ => h_.1))) (Kd.R_base ho87) hb); replace HO341 := A_ (Kd.R_elder' (by (with_reducible repeat (first|apply rA_|apply rN_|apply rD_)); exact (Kd.R_mono (Kd.R_far (p := ⟨gb345, 5, none⟩) (Kd.R_far (p := ⟨gb345, 4, none⟩) (Kd.R_far (p := ⟨gb345, 3, none⟩) (Kd.R_far (p := ⟨gb345, 2, none⟩) (Kd.R_far (p := ⟨gb345, 1, none⟩) (Kd.R_far (p := ⟨gb345, 0, none⟩) (Kd.R_types HO341.out BK345.out (by decide)) (fun _ hk => hk.2) (.int .i64 a1)) (fun _ hk => hk.2) (.int .i64 (wrap64 (a1 + 1)))) (fun _ hk => hk.2) (.slice Ao82 t336.length co82)) (fun _ hk => hk.2) (.slice Ao81 t339.length co81)) (fun _ hk => hk.2) (.slice Ao80 t342.length co80)) (fun _ hk => hk.2) (.bool false)) (fun _ h_ => h_.1))) (Kd.R_base ho87) hb); replace HO344 := A_ (Kd.R_elder' (by (with_reducible repeat (first|apply rA_|apply rN_|apply rD_)); exact (Kd.R_mono (Kd.R_far (p := ⟨gb345, 5, none⟩) (Kd.R_far (p := ⟨gb345, 4, none⟩) (Kd.R_far (p := ⟨gb345, 3, none⟩) (Kd.R_far (p := ⟨gb345, 2, none⟩) (Kd.R_far (p := ⟨gb345, 1, none⟩) (Kd.R_far (p := ⟨gb345, 0, none⟩) (Kd.R_types HO344.out BK345.out (by decide)) (fun _ hk => hk.2) (.int .i64 a1)) (fun _ hk => hk.2) (.int .i64 (wrap64 (a1 + 1)))) (fun _ hk => hk.2) (.slice Ao82 t336.length co82)) (fun _ hk => hk.2) (.slice Ao81 t339.length co81)) (fun _ hk => hk.2) (.slice Ao80 t342.length co80)) (fun _ hk => hk.2) (.bool false)) (fun _ h_ => h_.1))) (Kd.R_base ho87) hb); replace BK335 := A_ (blk_below (g := gb335) (o := .cells #[.int .i64 0, .int .i64 0, .slice none 0 0, .slice none 0 0, .slice none 0 0, .bool false] 41 (0, 0)) (by (with_reducible repeat (first|apply bA_|apply bN_|apply bD_)); refine blk_far ?_ NB335_345.out _; (with_reducible repeat (first|apply bA_|apply bN_|apply bD_)); refine blk_far ?_ NB335_345.out _; (with_reducible repeat (first|apply bA_|apply bN_|apply bD_)); refine blk_far ?_ NB335_345.out _; (with_reducible repeat (first|apply bA_|apply bN_|apply bD_)); refine blk_far ?_ NB335_345.out _; (with_reducible repeat (first|apply bA_|apply bN_|apply bD_)); refine blk_far ?_ NB335_345.out _; (with_reducible repeat (first|apply bA_|apply bN_|apply bD_)); refine blk_far ?_ NB335_345.out _; (with_reducible repeat (first|apply bA_|apply bN_|apply bD_)); exact BK335.out) hb); replace BK345 := A_ (blk_below (g := gb345) (o := .cells #[.int .i64 a1, .int .i64 (wrap64 (a1 + 1)), .slice Ao82 t336.length co82, .slice Ao81 t339.length co81, .slice Ao80 t342.length co80, .bool false] 41 (0, 0)) (by (with_reducible repeat (first|apply bA_|apply bN_|apply bD_)); refine blk_put (cs := #[.int .i64 a1, .int .i64 (wrap64 (a1 + 1)), .slice Ao82 t336.length co82, .slice Ao81 t339.length co81, .slice Ao80 t342.length co80, .bool false]) ?_ 5 _ rfl; (with_reducible repeat (first|apply bA_|apply bN_|apply bD_)); refine blk_put (cs := #[.int .i64 a1, .int .i64 (wrap64 (a1 + 1)), .slice Ao82 t336.length co82, .slice Ao81 t339.length co81, .slice none 0 0, .bool false]) ?_ 4 _ rfl; (with_reducible repeat (first|apply bA_|apply bN_|apply bD_)); refine blk_put (cs := #[.int .i64 a1, .int .i64 (wrap64 (a1 + 1)), .slice Ao82 t336.length co82, .slice none 0 0, .slice none 0 0, .bool false]) ?_ 3 _ rfl; (with_reducible repeat (first|apply bA_|apply bN_|apply bD_)); refine blk_put (cs := #[.int .i64 a1, .int .i64 (wrap64 (a1 + 1)), .slice none 0 0, .slice none 0 0, .slice none 0 0, .bool false]) ?_ 2 _ rfl; (with_reducible repeat (first|apply bA_|apply bN_|apply bD_)); refine blk_put (cs := #[.int .i64 a1, .int .i64 0, .slice none 0 0, .slice none 0 0, .slice none 0 0, .bool false]) ?_ 1 _ rfl; (with_reducible repeat (first|apply bA_|apply bN_|apply bD_)); refine blk_put (cs := #[.int .i64 0, .int .i64 0, .slice none 0 0, .slice none 0 0, .slice none 0 0, .bool false]) ?_ 0 _ rfl; (with_reducible repeat (first|apply bA_|apply bN_|apply bD_)); exact BK345.out) hb); replace HB := A_ (below_step (hB_ w) hb); clear hb ho87; obtain ⟨Ao88, co88, eo88⟩ := Kd.R_slice HO372.out; subst eo88) | ((with_reducible refine gate_callee (f := 59) rfl ?_); refine goesL_ (some 67) rfl rfl Try.func59 (by kernel_rfl) rfl #[.slice Ao82 t336.length co82, .slice Ao88 y370.length co88] rfl (by (try simp only [List.map_toArray, List.map_cons, List.map_nil]); first | done | rfl | (simp only [List.length_drop, List.length_take]; rfl)) ?_; (with_reducible refine (tallystickref05_Times.calls kj7 _ _ t336 _ _ y370 t373 _ ?side1 ?side2 ?side3 ?side4 A76.out).mono ?_); (case side1 => repeat (first | exact (Kd.R_reads' HO338.out).2.2 | (with_reducible refine Kd.C_alloc ?_ _) | (with_reducible refine Kd.C_drewN ?_ _) | (with_reducible refine Kd.C_drew ?_))); (case side2 => exact (Kd.R_reads' HO338.out).2.1); (case side3 => repeat (first | exact (Kd.R_reads' HO372.out).2.2 | (with_reducible refine Kd.C_alloc ?_ _) | (with_reducible refine Kd.C_drewN ?_ _) | (with_reducible refine Kd.C_drew ?_))); (case side4 => exact (Kd.R_reads' HO372.out).2.1); rintro e w89 ⟨v374, rfl, ho0, hb⟩; refine ⟨_, rfl, ?_⟩; have HO375 := A_ (Kd.R_lower (Kd.R_new' (Kd.R_new' (Kd.R_new' (Kd.R_new' ho0 (Kd.R_lt (r_ HO338))) (Kd.R_lt (r_ HO341))) (Kd.R_lt (r_ HO344))) (Kd.R_lt (r_ HO372))) (below_size (hB_ w))); replace HO338 := A_ (Kd.R_elder' (r_ HO338) (Kd.R_base ho0) hb); replace HO341 := A_ (Kd.R_elder' (r_ HO341) (Kd.R_base ho0) hb); replace HO344 := A_ (Kd.R_elder' (r_ HO344) (Kd.R_base ho0) hb); replace HO372 := A_ (Kd.R_elder' (r_ HO372) (Kd.R_base ho0) hb); replace BK335 := A_ (blk_below (g := gb335) (b_ BK335) hb); replace BK345 := A_ (blk_below (g := gb345) (b_ BK345) hb); replace HB := A_ (below_step (hB_ w) hb); (try clear hb); (try clear hb2); (try clear hk); (try clear hi); (try clear ho0); obtain ⟨Ao90, co90, eo90⟩ := Kd.R_slice HO375.out; subst eo90; obtain ⟨hcz91_0, hcz91_1, hcz91_2, hcz91_3, hcz91_4, hcz91_5, hfz91_0, hfz91_1, hfz91_2, hfz91_3, hfz91_4, hfz91_5⟩ := cf6_ BK345; obtain ⟨hcz92_0, hcz92_1, hcz92_2, hcz92_3, hcz92_4, hcz92_5, hfz92_0, hfz92_1, hfz92_2, hfz92_3, hfz92_4, hfz92_5⟩ := cf6_ BK335))
     refine bodyPost_ret (results_ct rfl _ _ gb335 41 #[.int .i64 a1, .int .i64 (wrap64 (a1 + 1)), .slice Ao82 t336.length co82, .slice Ao81 t339.length co81, .slice Ao90 t373.length co90, .bool ((Int.tmod a1 2) == 1)] (0, 0) _ rfl (by (with_reducible repeat (first|apply bA_|apply bN_|apply bD_)); refine blk_put (cs := #[.int .i64 a1, .int .i64 (wrap64 (a1 + 1)), .slice Ao82 t336.length co82, .slice Ao81 t339.length co81, .slice Ao90 t373.length co90, .bool false]) ?_ 5 _ rfl; (with_reducible repeat (first|apply bA_|apply bN_|apply bD_)); refine blk_put (cs := #[.int .i64 a1, .int .i64 (wrap64 (a1 + 1)), .slice Ao82 t336.length co82, .slice Ao81 t339.length co81, .slice none 0 0, .bool false]) ?_ 4 _ rfl; (with_reducible repeat (first|apply bA_|apply bN_|apply bD_)); refine blk_put (cs := #[.int .i64 a1, .int .i64 (wrap64 (a1 + 1)), .slice Ao82 t336.length co82, .slice none 0 0, .slice none 0 0, .bool false]) ?_ 3 _ rfl; (with_reducible repeat (first|apply bA_|apply bN_|apply bD_)); refine blk_put (cs := #[.int .i64 a1, .int .i64 (wrap64 (a1 + 1)), .slice none 0 0, .slice none 0 0, .slice none 0 0, .bool false]) ?_ 2 _ rfl; (with_reducible repeat (first|apply bA_|apply bN_|apply bD_)); refine blk_put (cs := #[.int .i64 a1, .int .i64 0, .slice none 0 0, .slice none 0 0, .slice none 0 0, .bool false]) ?_ 1 _ rfl; (with_reducible repeat (first|apply bA_|apply bN_|apply bD_)); refine blk_put (cs := #[.int .i64 0, .int .i64 0, .slice none 0 0, .slice none 0 0, .slice none 0 0, .bool false]) ?_ 0 _ rfl; (with_reducible repeat (first|apply bA_|apply bN_|apply bD_)); refine blk_far ?_ NB335_345.out _; (with_reducible repeat (first|apply bA_|apply bN_|apply bD_)); refine blk_far ?_ NB335_345.out _; (with_reducible repeat (first|apply bA_|apply bN_|apply bD_)); exact BK335.out) Try.underlying41 rfl (by kernel_rfl)) rfl ?_
     exact ⟨_, _, _, by first | rfl | (simp [errW_none, errW_some] <;> rfl) | (simp [*, errW_none, errW_some] <;> rfl), by (with_reducible repeat (first|apply rA_|apply rN_|apply rD_)); exact Kd.R_mono (Kd.R_far (p := ⟨gb335, 5, none⟩) (Kd.R_far (p := ⟨gb335, 4, none⟩) (Kd.R_far (p := ⟨gb335, 3, none⟩) (Kd.R_far (p := ⟨gb335, 2, none⟩) (Kd.R_far (p := ⟨gb335, 1, none⟩) (Kd.R_far (p := ⟨gb335, 0, none⟩) (Kd.R_far (p := ⟨gb345, 5, none⟩) (Kd.R_far (p := ⟨gb345, 4, none⟩) (Kd.R_types (Kd.R_types HO338.out BK345.out (by decide)) BK335.out (by decide)) (fun _ hk => hk.1.2) (.slice Ao90 t373.length co90)) (fun _ hk => hk.1.2) (.bool ((Int.tmod a1 2) == 1))) (fun _ hk => hk.2) (.int .i64 a1)) (fun _ hk => hk.2) (.int .i64 (wrap64 (a1 + 1)))) (fun _ hk => hk.2) (.slice Ao82 t336.length co82)) (fun _ hk => hk.2) (.slice Ao81 t339.length co81)) (fun _ hk => hk.2) (.slice Ao90 t373.length co90)) (fun _ hk => hk.2) (.bool ((Int.tmod a1 2) == 1))) (fun _ hk => ⟨hk.1.1.1.1.1.2, hk.1.1.2⟩), by (with_reducible repeat (first|apply rA_|apply rN_|apply rD_)); exact Kd.R_mono (Kd.R_far (p := ⟨gb335, 5, none⟩) (Kd.R_far (p := ⟨gb335, 4, none⟩) (Kd.R_far (p := ⟨gb335, 3, none⟩) (Kd.R_far (p := ⟨gb335, 2, none⟩) (Kd.R_far (p := ⟨gb335, 1, none⟩) (Kd.R_far (p := ⟨gb335, 0, none⟩) (Kd.R_far (p := ⟨gb345, 5, none⟩) (Kd.R_far (p := ⟨gb345, 4, none⟩) (Kd.R_types (Kd.R_types HO341.out BK345.out (by decide)) BK335.out (by decide)) (fun _ hk => hk.1.2) (.slice Ao90 t373.length co90)) (fun _ hk => hk.1.2) (.bool ((Int.tmod a1 2) == 1))) (fun _ hk => hk.2) (.int .i64 a1)) (fun _ hk => hk.2) (.int .i64 (wrap64 (a1 + 1)))) (fun _ hk => hk.2) (.slice Ao82 t336.length co82)) (fun _ hk => hk.2) (.slice Ao81 t339.length co81)) (fun _ hk => hk.2) (.slice Ao90 t373.length co90)) (fun _ hk => hk.2) (.bool ((Int.tmod a1 2) == 1))) (fun _ hk => ⟨hk.1.1.1.1.1.2, hk.1.1.2⟩), by (with_reducible repeat (first|apply rA_|apply rN_|apply rD_)); exact Kd.R_mono (Kd.R_far (p := ⟨gb335, 5, none⟩) (Kd.R_far (p := ⟨gb335, 4, none⟩) (Kd.R_far (p := ⟨gb335, 3, none⟩) (Kd.R_far (p := ⟨gb335, 2, none⟩) (Kd.R_far (p := ⟨gb335, 1, none⟩) (Kd.R_far (p := ⟨gb335, 0, none⟩) (Kd.R_far (p := ⟨gb345, 5, none⟩) (Kd.R_far (p := ⟨gb345, 4, none⟩) (Kd.R_types (Kd.R_types HO375.out BK345.out (by decide)) BK335.out (by decide)) (fun _ hk => hk.1.2) (.slice Ao90 t373.length co90)) (fun _ hk => hk.1.2) (.bool ((Int.tmod a1 2) == 1))) (fun _ hk => hk.2) (.int .i64 a1)) (fun _ hk => hk.2) (.int .i64 (wrap64 (a1 + 1)))) (fun _ hk => hk.2) (.slice Ao82 t336.length co82)) (fun _ hk => hk.2) (.slice Ao81 t339.length co81)) (fun _ hk => hk.2) (.slice Ao90 t373.length co90)) (fun _ hk => hk.2) (.bool ((Int.tmod a1 2) == 1))) (fun _ hk => ⟨hk.1.1.1.1.1.2, hk.1.1.1.1.2⟩), hB_ w⟩

end Go.Proofs.Ytbpobnlkfpjijaa.Pr
end
-- Pr51
section
namespace Go.Proofs.Ytbpobnlkfpjijaa.Pr
open Go.RowKit Go.Proofs.YtbpobnlkfpjijaaW.PrintWords Go.Proofs.YtbpobnlkfpjijaaW.PrintLast Go.Proofs.YtbpobnlkfpjijaaW.PrintMore
attribute [local go_sem] max2_int min2_int max_two min_two max_three min_three max_four min_four   -- for this text's walks alone
set_option linter.unusedVariables false
set_option linter.unusedSimpArgs false

attribute [local go_sem] Go.Proofs.Aid.cell_set_row
def tallystickref10_By.j0 : Nat → List Int → List Int → Bool → Option (List Int × Int)
 | 0, _, _, _ => none
 | k + 1, x0, x1, x13 => if x13 = true then (some (([] : List Int), 1)) else ((tallystickref04_Digits.f k x0).bind fun t376 => ((tallystickref04_Words.f k t376).bind fun t379 => (if (t379.length : Int) > 4096 then (some (([] : List Int), 4)) else ((tallystickref04_Digits.f k x1).bind fun t382 => ((tallystickref04_Words.f k t382).bind fun t385 => (if (t385.length : Int) > 4096 then (some (([] : List Int), 4)) else ((tallystickref05_Times.f k x0 x1).bind fun t388 => (some (t388, 0)))))))))
def tallystickref10_By.f (k : Nat) (l0 : List Int) (l1 : List Int) (a2 : Int) : Option (List Int × Int) := if a2 < 1 then (tallystickref10_By.j0 k l0 l1 true) else (tallystickref10_By.j0 k l0 l1 (decide (a2 > 4)))
theorem tallystickref10_By.mono_l : ∀ k, (∀ y0 y1 y2, LeO (tallystickref10_By.j0 k y0 y1 y2) (tallystickref10_By.j0 (k + 1) y0 y1 y2))
 | 0 => fun _ _ _ r h => by simp [tallystickref10_By.j0] at h
 | k + 1 => by
  have ih0 := tallystickref10_By.mono_l k
  intro y0 y1 y2
  unfold tallystickref10_By.j0
  repeat' first
  | (with_reducible exact ih0 _ _ _)
  | (with_reducible exact tallystickref04_Digits.mono _ _)
  | (with_reducible exact tallystickref04_Words.mono _ _)
  | (with_reducible exact tallystickref05_Times.mono _ _ _)
  | (with_reducible exact LeO.refl _)
  | (with_reducible exact LeO.none _)
  | (with_reducible refine LeO.ite ?_ ?_)
  | (with_reducible refine LeO.bind ?_ (fun _ => ?_))
  | exact ih0 _ _ _
  | exact tallystickref04_Digits.mono _ _
  | exact tallystickref04_Words.mono _ _
  | exact tallystickref05_Times.mono _ _ _
  | exact LeO.none _
  | refine LeO.ite ?_ ?_
  | refine LeO.bind ?_ (fun _ => ?_)
theorem tallystickref10_By.mono : ∀ a0 a1 a2 k, LeO (tallystickref10_By.f k a0 a1 a2) (tallystickref10_By.f (k + 1) a0 a1 a2) := by
 intro a0 a1 a2 k
 have ih0 := tallystickref10_By.mono_l k
 unfold tallystickref10_By.f
 repeat' first
   | (with_reducible exact ih0 _ _ _)
   | (with_reducible exact tallystickref04_Digits.mono _ _)
   | (with_reducible exact tallystickref04_Words.mono _ _)
   | (with_reducible exact tallystickref05_Times.mono _ _ _)
   | (with_reducible exact LeO.refl _)
   | (with_reducible exact LeO.none _)
   | (with_reducible refine LeO.ite ?_ ?_)
   | (with_reducible refine LeO.bind ?_ (fun _ => ?_))
   | exact ih0 _ _ _
   | exact tallystickref04_Digits.mono _ _
   | exact tallystickref04_Words.mono _ _
   | exact tallystickref05_Times.mono _ _ _
   | exact LeO.none _
   | refine LeO.ite ?_ ?_
   | refine LeO.bind ?_ (fun _ => ?_)
set_option maxHeartbeats 8000000 in
set_option maxRecDepth 100000 in
theorem tallystickref10_By.calls (k : Nat) (A0 : Option Addr) (c0 : Nat) (l0 : List Int) (A1 : Option Addr) (c1 : Nat) (l1 : List Int) (a2 : Int) (r1 : List Int) (r2 : Int) (w : World) (hr0 : Kd.C (Kd.int .u64) w A0 l0.length l0) (hc0 : l0.length ≤ c0) (hr1 : Kd.C (Kd.int .u64) w A1 l1.length l1) (hc1 : l1.length ≤ c1) (h : tallystickref10_By.f k l0 l1 a2 = some (r1, r2)) :
  Calls Try.prog 80 #[.slice A0 l0.length c0, .slice A1 l1.length c1, .int .i64 a2] w fun e w' => ∃ v0_ : Value, e = .returned (.tuple #[v0_, .int .i64 r2]) ∧ Kd.R (Kd.int .u64) 57 w' w.heap.size (fun _ => True) v0_ r1 ∧ Below w.heap.size w w' := by
 have HR0 := A_ hr0; have HC0 := A_ hc0; clear hr0 hc0; have HR1 := A_ hr1; have HC1 := A_ hc1; clear hr1 hc1; have HB := A_ (Below.refl w.heap.size w)
 have H : (if a2 < 1 then (tallystickref10_By.j0 k l0 l1 true) else (tallystickref10_By.j0 k l0 l1 (decide (a2 > 4)))) = some (r1, r2) := h
 clear h; have HC4 := A_ H; clear H
 go_enter Try.func80, Try.ntmps80
 go_upto_region 1 with (fail)
 go_cut [13] (fun v13 wc => ∃ (kq : Nat) (x13_3 : Bool), v13 = .bool x13_3 ∧ AsC (tallystickref10_By.j0 kq l0 l1 x13_3 = some (r1, r2)) ∧ AsC (kq ≤ k) ∧ AsC (Below w.heap.size w wc))
 case first =>
  have H := HC4.out; clear HC4
  by_cases c5 : a2 < 1
  ·rw [if_pos c5] at H
   have c5b0 : decide (a2 < 1) = true := decide_eq_true c5
   clear c5
   (first | rw [c5b0] | (simp only [i64_w, i32_w]; rw [c5b0]) | skip)
   have H' := A_ H
   clear H
   go_wp2
   go_meet
   case rel => exact ⟨_, (true), (by first | rfl | (simp; done) | (simp [*]; done)), H', ⟨by first | omega | exact Nat.le_refl _⟩, ⟨hB_ w⟩⟩
  rw [if_neg c5] at H
  have c5b0 : decide (a2 < 1) = false := decide_eq_false c5
  clear c5
  (first | rw [c5b0] | (simp only [i64_w, i32_w]; rw [c5b0]) | skip)
  have H' := A_ H
  clear H
  go_wp2
  go_meet
  case rel => exact ⟨_, (decide (a2 > 4)), (by first | rfl | (simp; done) | (simp [*]; done)), H', ⟨by first | omega | exact Nat.le_refl _⟩, ⟨hB_ w⟩⟩
 case rest =>
  clear HC4; try clear c1; try clear p2; try clear c5; try clear c5b0
  obtain ⟨kq, x13_3, rfl, HA, HJ3, HB⟩ := hcut
  cases kq with
  | zero => exact absurd HA.out (by simp [tallystickref10_By.j0])
  | succ kj3 =>
   have H := HA.out; clear HA
   simp only [tallystickref10_By.j0] at H
   by_cases c6 : x13_3 = true
   ·subst c6
    have H1 : (some (([] : List Int), 1)) = some (r1, r2) := by rw [if_pos rfl] at H; exact H
    clear H
    have H := H1
    clear H1
    simp only [Option.some.injEq, Prod.mk.injEq] at H
    obtain ⟨rfl, rfl⟩ := H
    go_wp2
    go_ret2
    exact ⟨_, by first | rfl | (simp [errW_none, errW_some] <;> rfl) | (simp [*, errW_none, errW_some] <;> rfl), by first | exact Kd.R_nil _ _ _ _ _ | exact Kd.N_nil _ _ _ _ _ | exact Kd.V_nil _ _ _ _ _ | exact Kd.Q_nil _ _ _ _ _ | exact Kd.S_nil _ _ _ _ _, hB_ w⟩
   replace c6 := Bool.eq_false_iff.mpr c6
   subst c6
   have H1 : ((tallystickref04_Digits.f kj3 l0).bind fun t376 => ((tallystickref04_Words.f kj3 t376).bind fun t379 => (if (t379.length : Int) > 4096 then (some (([] : List Int), 4)) else ((tallystickref04_Digits.f kj3 l1).bind fun t382 => ((tallystickref04_Words.f kj3 t382).bind fun t385 => (if (t385.length : Int) > 4096 then (some (([] : List Int), 4)) else ((tallystickref05_Times.f kj3 l0 l1).bind fun t388 => (some (t388, 0))))))))) = some (r1, r2) := by rw [if_neg (show ¬ (false = true) by decide)] at H; exact H
   clear H
   have H := H1
   clear H1
   replace H := Option.bind_eq_some_iff.mp H
   obtain ⟨t376, A70, H⟩ := H
   replace H : ((tallystickref04_Words.f kj3 t376).bind fun t379 => (if (t379.length : Int) > 4096 then (some (([] : List Int), 4)) else ((tallystickref04_Digits.f kj3 l1).bind fun t382 => ((tallystickref04_Words.f kj3 t382).bind fun t385 => (if (t385.length : Int) > 4096 then (some (([] : List Int), 4)) else ((tallystickref05_Times.f kj3 l0 l1).bind fun t388 => (some (t388, 0)))))))) = some (r1, r2) := H
   have A7 := A_ A70; clear A70
   replace H := Option.bind_eq_some_iff.mp H
   obtain ⟨t379, A80, H⟩ := H
   replace H : (if (t379.length : Int) > 4096 then (some (([] : List Int), 4)) else ((tallystickref04_Digits.f kj3 l1).bind fun t382 => ((tallystickref04_Words.f kj3 t382).bind fun t385 => (if (t385.length : Int) > 4096 then (some (([] : List Int), 4)) else ((tallystickref05_Times.f kj3 l0 l1).bind fun t388 => (some (t388, 0))))))) = some (r1, r2) := H
   have A8 := A_ A80; clear A80
   by_cases c9 : (t379.length : Int) > 4096
   ·rw [if_pos c9] at H
    have c9b0 : decide (4096 < (t379.length : Int)) = true := decide_eq_true c9
    have c9b1 : decide (4096 < t379.length) = true := decide_eq_true (by omega)
    clear c9
    simp only [Option.some.injEq, Prod.mk.injEq] at H
    obtain ⟨rfl, rfl⟩ := H
    go_wp2_with (first | ((with_reducible refine gate_callee (f := 62) rfl ?_); refine goesL_ (some 15) rfl rfl Try.func62 (by kernel_rfl) rfl #[.slice A0 l0.length c0] rfl (by (try simp only [List.map_toArray, List.map_cons, List.map_nil]); first | done | rfl | (simp only [List.length_drop, List.length_take]; rfl)) ?_; (with_reducible refine (tallystickref04_Digits.calls kj3 _ _ l0 t376 _ ?side1 ?side2 A7.out).mono ?_); (case side1 => repeat (first | exact (Kd.C_below HR0.out HB.out) | (with_reducible refine Kd.C_alloc ?_ _) | (with_reducible refine Kd.C_drewN ?_ _) | (with_reducible refine Kd.C_drew ?_))); (case side2 => exact HC0.out); rintro e w10 ⟨v377, rfl, ho0, hb⟩; refine ⟨_, rfl, ?_⟩; have HO378 := A_ (Kd.R_lower ho0 (below_size (hB_ w))); replace HB := A_ (below_step (hB_ w) hb); (try clear hb); (try clear hb2); (try clear hk); (try clear hi); (try clear ho0); obtain ⟨Ao11, co11, eo11⟩ := Kd.R_slice HO378.out; subst eo11) | ((with_reducible refine gate_callee (f := 63) rfl ?_); refine goesL_ (some 16) rfl rfl Try.func63 (by kernel_rfl) rfl #[.slice Ao11 t376.length co11] rfl (by (try simp only [List.map_toArray, List.map_cons, List.map_nil]); first | done | rfl | (simp only [List.length_drop, List.length_take]; rfl)) ?_; (with_reducible refine (tallystickref04_Words.calls kj3 _ _ t376 t379 _ ?side1 ?side2 A8.out).mono ?_); (case side1 => repeat (first | exact (Kd.R_reads' HO378.out).2.2 | (with_reducible refine Kd.C_alloc ?_ _) | (with_reducible refine Kd.C_drewN ?_ _) | (with_reducible refine Kd.C_drew ?_))); (case side2 => exact (Kd.R_reads' HO378.out).2.1); rintro e w12 ⟨v380, rfl, ho0, hb⟩; refine ⟨_, rfl, ?_⟩; replace HO378 := A_ (Kd.R_below (r_ HO378) hb); have HO381 := A_ (Kd.R_lower ho0 (below_size (hB_ w))); replace HB := A_ (below_step (hB_ w) hb); (try clear hb); (try clear hb2); (try clear hk); (try clear hi); (try clear ho0); obtain ⟨Ao13, co13, eo13⟩ := Kd.R_slice HO381.out; subst eo13))
    go_ret2
    exact ⟨_, by first | rfl | (simp [errW_none, errW_some] <;> rfl) | (simp [*, errW_none, errW_some] <;> rfl), by first | exact Kd.R_nil _ _ _ _ _ | exact Kd.N_nil _ _ _ _ _ | exact Kd.V_nil _ _ _ _ _ | exact Kd.Q_nil _ _ _ _ _ | exact Kd.S_nil _ _ _ _ _, hB_ w⟩
   rw [if_neg c9] at H
   have c9b0 : decide (4096 < (t379.length : Int)) = false := decide_eq_false c9
   have c9b1 : decide (4096 < t379.length) = false := decide_eq_false (by omega)
   clear c9
   replace H := Option.bind_eq_some_iff.mp H
   obtain ⟨t382, A140, H⟩ := H
   replace H : ((tallystickref04_Words.f kj3 t382).bind fun t385 => (if (t385.length : Int) > 4096 then (some (([] : List Int), 4)) else ((tallystickref05_Times.f kj3 l0 l1).bind fun t388 => (some (t388, 0))))) = some (r1, r2) := H
   have A14 := A_ A140; clear A140
   replace H := Option.bind_eq_some_iff.mp H
   obtain ⟨t385, A150, H⟩ := H
   replace H : (if (t385.length : Int) > 4096 then (some (([] : List Int), 4)) else ((tallystickref05_Times.f kj3 l0 l1).bind fun t388 => (some (t388, 0)))) = some (r1, r2) := H
   have A15 := A_ A150; clear A150
   by_cases c16 : (t385.length : Int) > 4096
   ·rw [if_pos c16] at H
    have c16b0 : decide (4096 < (t385.length : Int)) = true := decide_eq_true c16
    have c16b1 : decide (4096 < t385.length) = true := decide_eq_true (by omega)
    clear c16
    simp only [Option.some.injEq, Prod.mk.injEq] at H
    obtain ⟨rfl, rfl⟩ := H
    go_wp2_with (first | ((with_reducible refine gate_callee (f := 62) rfl ?_); refine goesL_ (some 15) rfl rfl Try.func62 (by kernel_rfl) rfl #[.slice A0 l0.length c0] rfl (by (try simp only [List.map_toArray, List.map_cons, List.map_nil]); first | done | rfl | (simp only [List.length_drop, List.length_take]; rfl)) ?_; (with_reducible refine (tallystickref04_Digits.calls kj3 _ _ l0 t376 _ ?side1 ?side2 A7.out).mono ?_); (case side1 => repeat (first | exact (Kd.C_below HR0.out HB.out) | (with_reducible refine Kd.C_alloc ?_ _) | (with_reducible refine Kd.C_drewN ?_ _) | (with_reducible refine Kd.C_drew ?_))); (case side2 => exact HC0.out); rintro e w17 ⟨v377, rfl, ho0, hb⟩; refine ⟨_, rfl, ?_⟩; have HO378 := A_ (Kd.R_lower ho0 (below_size (hB_ w))); replace HB := A_ (below_step (hB_ w) hb); (try clear hb); (try clear hb2); (try clear hk); (try clear hi); (try clear ho0); obtain ⟨Ao18, co18, eo18⟩ := Kd.R_slice HO378.out; subst eo18) | ((with_reducible refine gate_callee (f := 63) rfl ?_); refine goesL_ (some 16) rfl rfl Try.func63 (by kernel_rfl) rfl #[.slice Ao18 t376.length co18] rfl (by (try simp only [List.map_toArray, List.map_cons, List.map_nil]); first | done | rfl | (simp only [List.length_drop, List.length_take]; rfl)) ?_; (with_reducible refine (tallystickref04_Words.calls kj3 _ _ t376 t379 _ ?side1 ?side2 A8.out).mono ?_); (case side1 => repeat (first | exact (Kd.R_reads' HO378.out).2.2 | (with_reducible refine Kd.C_alloc ?_ _) | (with_reducible refine Kd.C_drewN ?_ _) | (with_reducible refine Kd.C_drew ?_))); (case side2 => exact (Kd.R_reads' HO378.out).2.1); rintro e w19 ⟨v380, rfl, ho0, hb⟩; refine ⟨_, rfl, ?_⟩; replace HO378 := A_ (Kd.R_below (r_ HO378) hb); have HO381 := A_ (Kd.R_lower ho0 (below_size (hB_ w))); replace HB := A_ (below_step (hB_ w) hb); (try clear hb); (try clear hb2); (try clear hk); (try clear hi); (try clear ho0); obtain ⟨Ao20, co20, eo20⟩ := Kd.R_slice HO381.out; subst eo20) | (go_at_call 62; (with_reducible refine (tallystickref04_Digits.calls kj3 _ _ l1 t382 _ ?side1 ?side2 A14.out).mono ?_); (case side1 => repeat (first | exact (Kd.C_below HR1.out HB.out) | (with_reducible refine Kd.C_alloc ?_ _) | (with_reducible refine Kd.C_drewN ?_ _) | (with_reducible refine Kd.C_drew ?_))); (case side2 => exact HC1.out); rintro e w21 ⟨v383, rfl, ho0, hb⟩; replace HO381 := A_ (Kd.R_below (r_ HO381) hb); have HO384 := A_ (Kd.R_lower (Kd.R_new' ho0 (Kd.R_lt (r_ HO378))) (below_size (hB_ w))); replace HO378 := A_ (Kd.R_elder' (r_ HO378) (Kd.R_base ho0) hb); replace HB := A_ (below_step (hB_ w) hb); (try clear hb); (try clear hb2); (try clear hk); (try clear hi); (try clear ho0); obtain ⟨Ao22, co22, eo22⟩ := Kd.R_slice HO384.out; subst eo22) | (go_at_call 63; (with_reducible refine (tallystickref04_Words.calls kj3 _ _ t382 t385 _ ?side1 ?side2 A15.out).mono ?_); (case side1 => repeat (first | exact (Kd.R_reads' HO384.out).2.2 | (with_reducible refine Kd.C_alloc ?_ _) | (with_reducible refine Kd.C_drewN ?_ _) | (with_reducible refine Kd.C_drew ?_))); (case side2 => exact (Kd.R_reads' HO384.out).2.1); rintro e w23 ⟨v386, rfl, ho0, hb⟩; replace HO378 := A_ (Kd.R_below (r_ HO378) hb); replace HO384 := A_ (Kd.R_below (r_ HO384) hb); have HO387 := A_ (Kd.R_lower (Kd.R_new' ho0 (Kd.R_lt (r_ HO381))) (below_size (hB_ w))); replace HO381 := A_ (Kd.R_elder' (r_ HO381) (Kd.R_base ho0) hb); replace HB := A_ (below_step (hB_ w) hb); (try clear hb); (try clear hb2); (try clear hk); (try clear hi); (try clear ho0); obtain ⟨Ao24, co24, eo24⟩ := Kd.R_slice HO387.out; subst eo24))
    go_ret2
    exact ⟨_, by first | rfl | (simp [errW_none, errW_some] <;> rfl) | (simp [*, errW_none, errW_some] <;> rfl), by first | exact Kd.R_nil _ _ _ _ _ | exact Kd.N_nil _ _ _ _ _ | exact Kd.V_nil _ _ _ _ _ | exact Kd.Q_nil _ _ _ _ _ | exact Kd.S_nil _ _ _ _ _, hB_ w⟩
   rw [if_neg c16] at H
   have c16b0 : decide (4096 < (t385.length : Int)) = false := decide_eq_false c16
   have c16b1 : decide (4096 < t385.length) = false := decide_eq_false (by omega)
   clear c16
   replace H := Option.bind_eq_some_iff.mp H
   obtain ⟨t388, A250, H⟩ := H
   replace H : (some (t388, 0)) = some (r1, r2) := H
   have A25 := A_ A250; clear A250
   simp only [Option.some.injEq, Prod.mk.injEq] at H
   obtain ⟨rfl, rfl⟩ := H
   go_wp2_with (first | ((with_reducible refine gate_callee (f := 62) rfl ?_); refine goesL_ (some 15) rfl rfl Try.func62 (by kernel_rfl) rfl #[.slice A0 l0.length c0] rfl (by (try simp only [List.map_toArray, List.map_cons, List.map_nil]); first | done | rfl | (simp only [List.length_drop, List.length_take]; rfl)) ?_; (with_reducible refine (tallystickref04_Digits.calls kj3 _ _ l0 t376 _ ?side1 ?side2 A7.out).mono ?_); (case side1 => repeat (first | exact (Kd.C_below HR0.out HB.out) | (with_reducible refine Kd.C_alloc ?_ _) | (with_reducible refine Kd.C_drewN ?_ _) | (with_reducible refine Kd.C_drew ?_))); (case side2 => exact HC0.out); rintro e w26 ⟨v377, rfl, ho0, hb⟩; refine ⟨_, rfl, ?_⟩; have HO378 := A_ (Kd.R_lower ho0 (below_size (hB_ w))); replace HB := A_ (below_step (hB_ w) hb); (try clear hb); (try clear hb2); (try clear hk); (try clear hi); (try clear ho0); obtain ⟨Ao27, co27, eo27⟩ := Kd.R_slice HO378.out; subst eo27) | ((with_reducible refine gate_callee (f := 63) rfl ?_); refine goesL_ (some 16) rfl rfl Try.func63 (by kernel_rfl) rfl #[.slice Ao27 t376.length co27] rfl (by (try simp only [List.map_toArray, List.map_cons, List.map_nil]); first | done | rfl | (simp only [List.length_drop, List.length_take]; rfl)) ?_; (with_reducible refine (tallystickref04_Words.calls kj3 _ _ t376 t379 _ ?side1 ?side2 A8.out).mono ?_); (case side1 => repeat (first | exact (Kd.R_reads' HO378.out).2.2 | (with_reducible refine Kd.C_alloc ?_ _) | (with_reducible refine Kd.C_drewN ?_ _) | (with_reducible refine Kd.C_drew ?_))); (case side2 => exact (Kd.R_reads' HO378.out).2.1); rintro e w28 ⟨v380, rfl, ho0, hb⟩; refine ⟨_, rfl, ?_⟩; replace HO378 := A_ (Kd.R_below (r_ HO378) hb); have HO381 := A_ (Kd.R_lower ho0 (below_size (hB_ w))); replace HB := A_ (below_step (hB_ w) hb); (try clear hb); (try clear hb2); (try clear hk); (try clear hi); (try clear ho0); obtain ⟨Ao29, co29, eo29⟩ := Kd.R_slice HO381.out; subst eo29) | (go_at_call 62; (with_reducible refine (tallystickref04_Digits.calls kj3 _ _ l1 t382 _ ?side1 ?side2 A14.out).mono ?_); (case side1 => repeat (first | exact (Kd.C_below HR1.out HB.out) | (with_reducible refine Kd.C_alloc ?_ _) | (with_reducible refine Kd.C_drewN ?_ _) | (with_reducible refine Kd.C_drew ?_))); (case side2 => exact HC1.out); rintro e w30 ⟨v383, rfl, ho0, hb⟩; replace HO381 := A_ (Kd.R_below (r_ HO381) hb); have HO384 := A_ (Kd.R_lower (Kd.R_new' ho0 (Kd.R_lt (r_ HO378))) (below_size (hB_ w))); replace HO378 := A_ (Kd.R_elder' (r_ HO378) (Kd.R_base ho0) hb); replace HB := A_ (below_step (hB_ w) hb); (try clear hb); (try clear hb2); (try clear hk); (try clear hi); (try clear ho0); obtain ⟨Ao31, co31, eo31⟩ := Kd.R_slice HO384.out; subst eo31) | (go_at_call 63; (with_reducible refine (tallystickref04_Words.calls kj3 _ _ t382 t385 _ ?side1 ?side2 A15.out).mono ?_); (case side1 => repeat (first | exact (Kd.R_reads' HO384.out).2.2 | (with_reducible refine Kd.C_alloc ?_ _) | (with_reducible refine Kd.C_drewN ?_ _) | (with_reducible refine Kd.C_drew ?_))); (case side2 => exact (Kd.R_reads' HO384.out).2.1); rintro e w32 ⟨v386, rfl, ho0, hb⟩; replace HO378 := A_ (Kd.R_below (r_ HO378) hb); replace HO384 := A_ (Kd.R_below (r_ HO384) hb); have HO387 := A_ (Kd.R_lower (Kd.R_new' ho0 (Kd.R_lt (r_ HO381))) (below_size (hB_ w))); replace HO381 := A_ (Kd.R_elder' (r_ HO381) (Kd.R_base ho0) hb); replace HB := A_ (below_step (hB_ w) hb); (try clear hb); (try clear hb2); (try clear hk); (try clear hi); (try clear ho0); obtain ⟨Ao33, co33, eo33⟩ := Kd.R_slice HO387.out; subst eo33) | ((with_reducible refine gate_callee (f := 59) rfl ?_); refine goesL_ (some 28) rfl rfl Try.func59 (by kernel_rfl) rfl #[.slice A0 l0.length c0, .slice A1 l1.length c1] rfl (by (try simp only [List.map_toArray, List.map_cons, List.map_nil]); first | done | rfl | (simp only [List.length_drop, List.length_take]; rfl)) ?_; (with_reducible refine (tallystickref05_Times.calls kj3 _ _ l0 _ _ l1 t388 _ ?side1 ?side2 ?side3 ?side4 A25.out).mono ?_); (case side1 => repeat (first | exact (Kd.C_below HR0.out HB.out) | (with_reducible refine Kd.C_alloc ?_ _) | (with_reducible refine Kd.C_drewN ?_ _) | (with_reducible refine Kd.C_drew ?_))); (case side2 => exact HC0.out); (case side3 => repeat (first | exact (Kd.C_below HR1.out HB.out) | (with_reducible refine Kd.C_alloc ?_ _) | (with_reducible refine Kd.C_drewN ?_ _) | (with_reducible refine Kd.C_drew ?_))); (case side4 => exact HC1.out); rintro e w34 ⟨v389, rfl, ho0, hb⟩; refine ⟨_, rfl, ?_⟩; replace HO378 := A_ (Kd.R_below (r_ HO378) hb); replace HO384 := A_ (Kd.R_below (r_ HO384) hb); have HO390 := A_ (Kd.R_lower (Kd.R_new' (Kd.R_new' ho0 (Kd.R_lt (r_ HO381))) (Kd.R_lt (r_ HO387))) (below_size (hB_ w))); replace HO381 := A_ (Kd.R_elder' (r_ HO381) (Kd.R_base ho0) hb); replace HO387 := A_ (Kd.R_elder' (r_ HO387) (Kd.R_base ho0) hb); replace HB := A_ (below_step (hB_ w) hb); (try clear hb); (try clear hb2); (try clear hk); (try clear hi); (try clear ho0)))
   go_ret2
   exact ⟨_, by first | rfl | (simp [errW_none, errW_some] <;> rfl) | (simp [*, errW_none, errW_some] <;> rfl), Kd.R_mono (r_ HO390) (fun _ hk => trivial), hB_ w⟩

end Go.Proofs.Ytbpobnlkfpjijaa.Pr
end
-- Pr52
section
namespace Go.Proofs.Ytbpobnlkfpjijaa.Pr
open Go.RowKit Go.Proofs.YtbpobnlkfpjijaaW.PrintWords Go.Proofs.YtbpobnlkfpjijaaW.PrintLast Go.Proofs.YtbpobnlkfpjijaaW.PrintMore
attribute [local go_sem] max2_int min2_int max_two min_two max_three min_three max_four min_four   -- for this text's walks alone
set_option linter.unusedVariables false
set_option linter.unusedSimpArgs false

attribute [local go_sem] Go.Proofs.Aid.cell_set_row
def tallystickref10_Mul.f (k : Nat) (l0 : List Int) (l1 : List Int) : Option (List Int × Int) := (tallystickref10_By.f k l0 l1 1).bind fun bt391 => (some (bt391.1, bt391.2))
theorem tallystickref10_Mul.mono : ∀ a0 a1 k, LeO (tallystickref10_Mul.f k a0 a1) (tallystickref10_Mul.f (k + 1) a0 a1) := by
 intro a0 a1 k
 unfold tallystickref10_Mul.f
 repeat' first
   | (with_reducible exact tallystickref10_By.mono _ _ _ _)
   | (with_reducible exact LeO.refl _)
   | (with_reducible exact LeO.none _)
   | (with_reducible refine LeO.ite ?_ ?_)
   | (with_reducible refine LeO.bind ?_ (fun _ => ?_))
   | exact tallystickref10_By.mono _ _ _ _
   | exact LeO.none _
   | refine LeO.ite ?_ ?_
   | refine LeO.bind ?_ (fun _ => ?_)
set_option maxHeartbeats 8000000 in
set_option maxRecDepth 100000 in
theorem tallystickref10_Mul.calls (k : Nat) (A0 : Option Addr) (c0 : Nat) (l0 : List Int) (A1 : Option Addr) (c1 : Nat) (l1 : List Int) (r1 : List Int) (r2 : Int) (w : World) (hr0 : Kd.C (Kd.int .u64) w A0 l0.length l0) (hc0 : l0.length ≤ c0) (hr1 : Kd.C (Kd.int .u64) w A1 l1.length l1) (hc1 : l1.length ≤ c1) (h : tallystickref10_Mul.f k l0 l1 = some (r1, r2)) :
  Calls Try.prog 60 #[.slice A0 l0.length c0, .slice A1 l1.length c1] w fun e w' => ∃ v0_ : Value, e = .returned (.tuple #[v0_, .int .i64 r2]) ∧ Kd.R (Kd.int .u64) 57 w' w.heap.size (fun _ => True) v0_ r1 ∧ Below w.heap.size w w' := by
 have HR0 := A_ hr0; have HC0 := A_ hc0; clear hr0 hc0; have HR1 := A_ hr1; have HC1 := A_ hc1; clear hr1 hc1; have HB := A_ (Below.refl w.heap.size w)
 have H : ((tallystickref10_By.f k l0 l1 1).bind fun bt391 => (some (bt391.1, bt391.2))) = some (r1, r2) := h
 clear h
 replace H := Option.bind_eq_some_iff.mp H
 obtain ⟨⟨t391, t392⟩, A30, H⟩ := H
 replace H : (some (t391, t392)) = some (r1, r2) := H
 have A3 := A_ A30; clear A30
 simp only [Option.some.injEq, Prod.mk.injEq] at H
 obtain ⟨rfl, rfl⟩ := H
 go_enter Try.func60, Try.ntmps60
 go_wp2_with (first | ((with_reducible refine gate_callee (f := 80) rfl ?_); refine goesL_ (some 8) rfl rfl Try.func80 (by kernel_rfl) rfl #[.slice A0 l0.length c0, .slice A1 l1.length c1, .int .i64 1] rfl (by (try simp only [List.map_toArray, List.map_cons, List.map_nil]); first | done | rfl | (simp only [List.length_drop, List.length_take]; rfl)) ?_; (with_reducible refine (tallystickref10_By.calls k _ _ l0 _ _ l1 1 t391 t392 _ ?side1 ?side2 ?side3 ?side4 A3.out).mono ?_); (case side1 => repeat (first | exact HR0.out | (with_reducible refine Kd.C_alloc ?_ _) | (with_reducible refine Kd.C_drewN ?_ _) | (with_reducible refine Kd.C_drew ?_))); (case side2 => exact HC0.out); (case side3 => repeat (first | exact HR1.out | (with_reducible refine Kd.C_alloc ?_ _) | (with_reducible refine Kd.C_drewN ?_ _) | (with_reducible refine Kd.C_drew ?_))); (case side4 => exact HC1.out); rintro e w4 ⟨v393, rfl, ho0, hb⟩; refine ⟨_, rfl, ?_⟩; have HO394 := A_ (Kd.R_lower ho0 (below_size (hB_ w))); replace HB := A_ (below_step (hB_ w) hb); (try clear hb); (try clear hb2); (try clear hk); (try clear hi); (try clear ho0)))
 go_ret2
 exact ⟨_, by first | rfl | (simp [errW_none, errW_some] <;> rfl) | (simp [*, errW_none, errW_some] <;> rfl), by (with_reducible repeat (first|apply rA_|apply rN_|apply rD_)); exact HO394.out, hB_ w⟩

end Go.Proofs.Ytbpobnlkfpjijaa.Pr
end
-- Pr53
section
namespace Go.Proofs.Ytbpobnlkfpjijaa.Pr
open Go.RowKit Go.Proofs.YtbpobnlkfpjijaaW.PrintWords Go.Proofs.YtbpobnlkfpjijaaW.PrintLast Go.Proofs.YtbpobnlkfpjijaaW.PrintMore
attribute [local go_sem] max2_int min2_int max_two min_two max_three min_three max_four min_four   -- for this text's walks alone
set_option linter.unusedVariables false
set_option linter.unusedSimpArgs false

attribute [local go_sem] Go.Proofs.Aid.cell_set_row
mutual
def tallystickref04_Add.l0 : Nat → List Int → List Int → List Int → Int → Int → Option (List Int)
 | 0, _, _, _, _, _ => none
 | k + 1, x0, x1, x5, x6, x7 => if x7 < (x0.length : Int) then (tallystickref04_Add.j1 k x0 x1 x5 x6 x7 true) else (if x7 < (x1.length : Int) then (tallystickref04_Add.j1 k x0 x1 x5 x6 x7 true) else (tallystickref04_Add.j1 k x0 x1 x5 x6 x7 (decide (x6 > 0))))
def tallystickref04_Add.j1 : Nat → List Int → List Int → List Int → Int → Int → Bool → Option (List Int)
 | 0, _, _, _, _, _, _ => none
 | k + 1, x0, x1, x5, x6, x7, x22 => if x22 = true then ((tallystickref04_digit.f x0 x7).bind fun t395 => ((tallystickref04_digit.f x1 x7).bind fun t396 => (if x5.length < 17592186044416 then (tallystickref04_Add.l0 k x0 x1 (x5 ++ [Int.tmod (wrap64 ((wrap64 (t395 + t396)) + x6)) 65536]) (wrap64 (Int.tdiv (wrap64 ((wrap64 (t395 + t396)) + x6)) 65536)) (wrap64 (x7 + 1))) else (none)))) else ((tallystickref04_Trim.f k x5).bind fun t400 => (some t400))
end
def tallystickref04_Add.f (k : Nat) (l0 : List Int) (l1 : List Int) : Option (List Int) := tallystickref04_Add.l0 k l0 l1 ([] : List Int) 0 0
theorem tallystickref04_Add.mono_l : ∀ k, (∀ y0 y1 y2 y3 y4, LeO (tallystickref04_Add.l0 k y0 y1 y2 y3 y4) (tallystickref04_Add.l0 (k + 1) y0 y1 y2 y3 y4)) ∧ (∀ y0 y1 y2 y3 y4 y5, LeO (tallystickref04_Add.j1 k y0 y1 y2 y3 y4 y5) (tallystickref04_Add.j1 (k + 1) y0 y1 y2 y3 y4 y5))
 | 0 => ⟨fun _ _ _ _ _ r h => by simp [tallystickref04_Add.l0] at h, fun _ _ _ _ _ _ r h => by simp [tallystickref04_Add.j1] at h⟩
 | k + 1 => by
  obtain ⟨ih0, ih1⟩ := tallystickref04_Add.mono_l k
  refine ⟨?_, ?_⟩
  ·intro y0 y1 y2 y3 y4
   unfold tallystickref04_Add.l0
   repeat' first
   | (with_reducible exact ih0 _ _ _ _ _)
   | (with_reducible exact ih1 _ _ _ _ _ _)
   | (with_reducible exact tallystickref04_Trim.mono _ _)
   | (with_reducible exact LeO.refl _)
   | (with_reducible exact LeO.none _)
   | (with_reducible refine LeO.ite ?_ ?_)
   | (with_reducible refine LeO.bind ?_ (fun _ => ?_))
   | exact ih0 _ _ _ _ _
   | exact ih1 _ _ _ _ _ _
   | exact tallystickref04_Trim.mono _ _
   | exact LeO.none _
   | refine LeO.ite ?_ ?_
   | refine LeO.bind ?_ (fun _ => ?_)
  intro y0 y1 y2 y3 y4 y5
  unfold tallystickref04_Add.j1
  repeat' first
  | (with_reducible exact ih0 _ _ _ _ _)
  | (with_reducible exact ih1 _ _ _ _ _ _)
  | (with_reducible exact tallystickref04_Trim.mono _ _)
  | (with_reducible exact LeO.refl _)
  | (with_reducible exact LeO.none _)
  | (with_reducible refine LeO.ite ?_ ?_)
  | (with_reducible refine LeO.bind ?_ (fun _ => ?_))
  | exact ih0 _ _ _ _ _
  | exact ih1 _ _ _ _ _ _
  | exact tallystickref04_Trim.mono _ _
  | exact LeO.none _
  | refine LeO.ite ?_ ?_
  | refine LeO.bind ?_ (fun _ => ?_)
theorem tallystickref04_Add.mono : ∀ a0 a1 k, LeO (tallystickref04_Add.f k a0 a1) (tallystickref04_Add.f (k + 1) a0 a1) := by
 intro a0 a1 k
 obtain ⟨ih0, ih1⟩ := tallystickref04_Add.mono_l k
 unfold tallystickref04_Add.f
 repeat' first
   | (with_reducible exact ih0 _ _ _ _ _)
   | (with_reducible exact ih1 _ _ _ _ _ _)
   | (with_reducible exact tallystickref04_Trim.mono _ _)
   | (with_reducible exact LeO.refl _)
   | (with_reducible exact LeO.none _)
   | (with_reducible refine LeO.ite ?_ ?_)
   | (with_reducible refine LeO.bind ?_ (fun _ => ?_))
   | exact ih0 _ _ _ _ _
   | exact ih1 _ _ _ _ _ _
   | exact tallystickref04_Trim.mono _ _
   | exact LeO.none _
   | refine LeO.ite ?_ ?_
   | refine LeO.bind ?_ (fun _ => ?_)
set_option maxHeartbeats 8000000 in
set_option maxRecDepth 100000 in
theorem tallystickref04_Add.calls (k : Nat) (A0 : Option Addr) (c0 : Nat) (l0 : List Int) (A1 : Option Addr) (c1 : Nat) (l1 : List Int) (r : List Int) (w : World) (hr0 : Kd.C (Kd.int .i64) w A0 l0.length l0) (hc0 : l0.length ≤ c0) (hr1 : Kd.C (Kd.int .i64) w A1 l1.length l1) (hc1 : l1.length ≤ c1) (h : tallystickref04_Add.f k l0 l1 = some r) :
  Calls Try.prog 81 #[.slice A0 l0.length c0, .slice A1 l1.length c1] w fun e w' => ∃ v0_ : Value, e = .returned (v0_) ∧ Kd.R (Kd.int .i64) 3 w' w.heap.size (fun _ => True) v0_ r ∧ Below w.heap.size w w' := by
 have HR0 := A_ hr0; have HC0 := A_ hc0; clear hr0 hc0; have HR1 := A_ hr1; have HC1 := A_ hc1; clear hr1 hc1; have HB := A_ (Below.refl w.heap.size w)
 have H : (tallystickref04_Add.l0 k l0 l1 ([] : List Int) 0 0) = some r := h
 clear h
 have H' := A_ H
 clear H
 go_enter Try.func81, Try.ntmps81
 go_wp2
 go_loopg [5, 6, 7] k (fun kq v5 v6 v7 w' => ∃ (x5_1 : List Int) (x6_1 : Int) (x7_1 : Int), v6 = .int .i64 x6_1 ∧ v7 = .int .i64 x7_1 ∧ AsC (tallystickref04_Add.l0 kq l0 l1 x5_1 x6_1 x7_1 = some r) ∧ AsC (kq ≤ k) ∧ AsC (Kd.R (Kd.int .i64) 3 w' w.heap.size (fun _ => True) v5 x5_1) ∧ AsC (Below w.heap.size w w'))
 case atStart => exact ⟨(([] : List Int)), (0), (0), (by first | rfl | (simp; done) | (simp [*]; done)), (by first | rfl | (simp; done) | (simp [*]; done)), H', ⟨Nat.le_refl _⟩, ⟨by first | exact Kd.R_nil _ _ _ _ _ | exact Kd.N_nil _ _ _ _ _ | exact Kd.V_nil _ _ _ _ _ | exact Kd.Q_nil _ _ _ _ _ | exact Kd.S_nil _ _ _ _ _⟩, ⟨hB_ w⟩⟩
 case round =>
  clear H'; try clear c1; try clear p2
  obtain ⟨x5_1, x6_1, x7_1, rfl, rfl, HA, HK1, HO_5, HB⟩ := hrel
  cases gk with
  | zero => exact absurd HA.out (by simp [tallystickref04_Add.l0])
  | succ k1 =>
   have H := HA.out; clear HA
   simp only [tallystickref04_Add.l0] at H
   have HC3 := A_ H; clear H
   go_upto_region 4 with (fail)
   go_cut [22] (fun v22 wc => ∃ (kq : Nat) (x22_2 : Bool), v22 = .bool x22_2 ∧ AsC (tallystickref04_Add.j1 kq l0 l1 x5_1 x6_1 x7_1 x22_2 = some r) ∧ AsC (kq ≤ k1) ∧ AsC (Kd.R (Kd.int .i64) 3 wc w.heap.size (fun _ => True) u5 x5_1) ∧ AsC (Below w.heap.size w wc))
   case first =>
    have H := HC3.out; clear HC3
    by_cases c4 : x7_1 < (l0.length : Int)
    ·rw [if_pos c4] at H
     have c4b0 : decide (x7_1 < (l0.length : Int)) = true := decide_eq_true c4
     clear c4
     (first | rw [c4b0] | (simp only [i64_w, i32_w]; rw [c4b0]) | skip)
     have H' := A_ H
     clear H
     go_wp2
     go_meet
     case rel => exact ⟨_, (true), (by first | rfl | (simp; done) | (simp [*]; done)), H', ⟨by have := HK1.out; first | omega | exact Nat.le_refl _⟩, ⟨r_ HO_5⟩, ⟨hB_ w⟩⟩
    rw [if_neg c4] at H
    have c4b0 : decide (x7_1 < (l0.length : Int)) = false := decide_eq_false c4
    clear c4
    (first | rw [c4b0] | (simp only [i64_w, i32_w]; rw [c4b0]) | skip)
    by_cases c5 : x7_1 < (l1.length : Int)
    ·rw [if_pos c5] at H
     have c5b0 : decide (x7_1 < (l1.length : Int)) = true := decide_eq_true c5
     clear c5
     have H' := A_ H
     clear H
     go_wp2
     go_meet
     case rel => exact ⟨_, (true), (by first | rfl | (simp; done) | (simp [*]; done)), H', ⟨by have := HK1.out; first | omega | exact Nat.le_refl _⟩, ⟨r_ HO_5⟩, ⟨hB_ w⟩⟩
    rw [if_neg c5] at H
    have c5b0 : decide (x7_1 < (l1.length : Int)) = false := decide_eq_false c5
    clear c5
    have H' := A_ H
    clear H
    go_wp2
    go_meet
    case rel => exact ⟨_, (decide (x6_1 > 0)), (by first | rfl | (simp; done) | (simp [*]; done)), H', ⟨by have := HK1.out; first | omega | exact Nat.le_refl _⟩, ⟨r_ HO_5⟩, ⟨hB_ w⟩⟩
   case rest =>
    clear HC3; try clear c1; try clear p2; try clear c4; try clear c4b0; try clear c5; try clear c5b0; try clear p2
    obtain ⟨kq, x22_2, rfl, HA, HJ2, HO_5, HB⟩ := hcut
    cases kq with
    | zero => exact absurd HA.out (by simp [tallystickref04_Add.j1])
    | succ kj2 =>
     have H := HA.out; clear HA
     simp only [tallystickref04_Add.j1] at H
     by_cases c6 : x22_2 = true
     ·subst c6
      have H1 : ((tallystickref04_digit.f l0 x7_1).bind fun t395 => ((tallystickref04_digit.f l1 x7_1).bind fun t396 => (if x5_1.length < 17592186044416 then (tallystickref04_Add.l0 kj2 l0 l1 (x5_1 ++ [Int.tmod (wrap64 ((wrap64 (t395 + t396)) + x6_1)) 65536]) (wrap64 (Int.tdiv (wrap64 ((wrap64 (t395 + t396)) + x6_1)) 65536)) (wrap64 (x7_1 + 1))) else (none)))) = some r := by rw [if_pos rfl] at H; exact H
      clear H
      have H := H1
      clear H1
      replace H := Option.bind_eq_some_iff.mp H
      obtain ⟨t395, A70, H⟩ := H
      replace H : ((tallystickref04_digit.f l1 x7_1).bind fun t396 => (if x5_1.length < 17592186044416 then (tallystickref04_Add.l0 kj2 l0 l1 (x5_1 ++ [Int.tmod (wrap64 ((wrap64 (t395 + t396)) + x6_1)) 65536]) (wrap64 (Int.tdiv (wrap64 ((wrap64 (t395 + t396)) + x6_1)) 65536)) (wrap64 (x7_1 + 1))) else (none))) = some r := H
      have A7 := A_ A70; clear A70
      replace H := Option.bind_eq_some_iff.mp H
      obtain ⟨t396, A80, H⟩ := H
      replace H : (if x5_1.length < 17592186044416 then (tallystickref04_Add.l0 kj2 l0 l1 (x5_1 ++ [Int.tmod (wrap64 ((wrap64 (t395 + t396)) + x6_1)) 65536]) (wrap64 (Int.tdiv (wrap64 ((wrap64 (t395 + t396)) + x6_1)) 65536)) (wrap64 (x7_1 + 1))) else (none)) = some r := H
      have A8 := A_ A80; clear A80
      by_cases c9 : x5_1.length < 17592186044416
      ·rw [if_pos c9] at H
       have LMc9 := A_ c9; clear c9
       obtain ⟨y397, hy397⟩ : ∃ y_ : List Int, y_ = (x5_1 ++ [Int.tmod (wrap64 ((wrap64 (t395 + t396)) + x6_1)) 65536]) := ⟨_, rfl⟩
       replace H : (tallystickref04_Add.l0 kj2 l0 l1 y397 (wrap64 (Int.tdiv (wrap64 ((wrap64 (t395 + t396)) + x6_1)) 65536)) (wrap64 (x7_1 + 1))) = some r := by first | (rw [hy397]; with_reducible exact H) | (have H2_ := (Option.bind_some _ _).symm.trans H; rw [hy397]; with_reducible exact H2_) | (have H2_ := (Option.bind_some _ _).symm.trans H; with_reducible exact H2_) | with_reducible exact H | (rw [hy397]; exact H) | exact H
       have Ny397 := A_ hy397; clear hy397
       have H' := A_ H
       clear H
       go_wp2_with (first | ((with_reducible refine gate_callee (f := 101) rfl ?_); refine goesL_ (some 27) rfl rfl Try.func101 (by kernel_rfl) rfl #[.slice A0 l0.length c0, .int .i64 x7_1] rfl (by (try simp only [List.map_toArray, List.map_cons, List.map_nil]); first | done | rfl | (simp only [List.length_drop, List.length_take]; rfl)) ?_; (with_reducible refine (tallystickref04_digit.calls _ _ l0 x7_1 t395 _ ?side1 ?side2 A7.out).mono ?_); (case side1 => repeat (first | exact (Kd.C_below HR0.out HB.out) | (with_reducible refine Kd.C_alloc ?_ _) | (with_reducible refine Kd.C_drewN ?_ _) | (with_reducible refine Kd.C_drew ?_))); (case side2 => exact HC0.out); rintro e w' ⟨rfl, ⟨nd, rfl⟩⟩; refine ⟨_, rfl, ?_⟩) | ((with_reducible refine gate_callee (f := 101) rfl ?_); refine goesL_ (some 30) rfl rfl Try.func101 (by kernel_rfl) rfl #[.slice A1 l1.length c1, .int .i64 x7_1] rfl (by (try simp only [List.map_toArray, List.map_cons, List.map_nil]); first | done | rfl | (simp only [List.length_drop, List.length_take]; rfl)) ?_; (with_reducible refine (tallystickref04_digit.calls _ _ l1 x7_1 t396 _ ?side1 ?side2 A8.out).mono ?_); (case side1 => repeat (first | exact (Kd.C_below HR1.out (hB_ w)) | (with_reducible refine Kd.C_alloc ?_ _) | (with_reducible refine Kd.C_drewN ?_ _) | (with_reducible refine Kd.C_drew ?_))); (case side2 => exact HC1.out); rintro e w' ⟨rfl, ⟨nd, rfl⟩⟩; refine ⟨_, rfl, ?_⟩) | ((with_reducible refine gate_builtin (b := .append) (xs := #[.tmp 34, .tmp 37]) rfl ?_); (try (refine gate_guard (by rfl) ?_; dsimp only)); at_builtin; refine Kd.R_append (Kd.int .i64) (w0 := w) w.heap.size rfl (.tmp 34) (.tmp 37) 110 3 (.int .i64 0) 8 rfl Try.underlying110 info3 rfl (by decide) (by omega) u5 x5_1 (Int.tmod (wrap64 ((wrap64 (t395 + t396)) + x6_1)) 65536) [.int .i64 (Int.tmod (wrap64 ((wrap64 (t395 + t396)) + x6_1)) 65536)] (fun _ => True) (fun _ => False) rfl rfl ?aP (fun _ hk => hk.elim) ?aF ?aO ?aB ?aS ?aL ?_; (case aP => exact rfl); (case aB => exact (hB_ w)); (case aF => exact (fun _ _ => trivial)); (case aO => exact (r_ HO_5)); (case aS => exact (below_size (hB_ w))); (case aL => have := LMc9.out; omega); intro v398 w10 ho hb hg hat; rw [← Ny397.out] at ho; replace HB := A_ hb; have HO399 := A_ ho; clear HO_5; clear ho hb hg hat))
       go_roundg kj2
       case measure => have := HK1.out; have := HJ2.out; omega
       case rel => exact ⟨(y397), (wrap64 (Int.tdiv (wrap64 ((wrap64 (t395 + t396)) + x6_1)) 65536)), (wrap64 (x7_1 + 1)), (by first | rfl | (simp; done) | (simp [*]; done)), (by first | rfl | (simp; done) | (simp [*]; done)), H', ⟨by have := HK1.out; have := HJ2.out; omega⟩, ⟨r_ HO399⟩, ⟨hB_ w⟩⟩
      rw [if_neg c9] at H
      exact absurd H (by simp)
     replace c6 := Bool.eq_false_iff.mpr c6
     subst c6
     have H1 : ((tallystickref04_Trim.f kj2 x5_1).bind fun t400 => (some t400)) = some r := by rw [if_neg (show ¬ (false = true) by decide)] at H; exact H
     clear H
     have H := H1
     clear H1
     replace H := Option.bind_eq_some_iff.mp H
     obtain ⟨t400, A110, H⟩ := H
     replace H : (some t400) = some r := H
     have A11 := A_ A110; clear A110
     obtain rfl := Option.some.inj H
     obtain ⟨Ao12, co12, eo12⟩ := Kd.R_slice HO_5.out
     subst eo12
     go_wp2_with (first | ((with_reducible refine gate_callee (f := 84) rfl ?_); refine goesL_ (some 42) rfl rfl Try.func84 (by kernel_rfl) rfl #[.slice Ao12 x5_1.length co12] rfl (by (try simp only [List.map_toArray, List.map_cons, List.map_nil]); first | done | rfl | (simp only [List.length_drop, List.length_take]; rfl)) ?_; (with_reducible refine (tallystickref04_Trim.calls kj2 _ _ x5_1 t400 _ ?side1 ?side2 A11.out).mono ?_); (case side1 => repeat (first | exact (Kd.R_reads' HO_5.out).2.2 | (with_reducible refine Kd.C_alloc ?_ _) | (with_reducible refine Kd.C_drewN ?_ _) | (with_reducible refine Kd.C_drew ?_))); (case side2 => exact (Kd.R_reads' HO_5.out).2.1); rintro e w13 ⟨v401, rfl, ho0, hb⟩; refine ⟨_, rfl, ?_⟩; have HO402 := A_ (Kd.R_lower (Kd.R_new' ho0 (Kd.R_lt (r_ HO_5))) (below_size (hB_ w))); replace HO_5 := A_ (Kd.R_elder' (r_ HO_5) (Kd.R_base ho0) hb); replace HB := A_ (below_step (hB_ w) hb); (try clear hb); (try clear hb2); (try clear hk); (try clear hi); (try clear ho0)))
     go_ret
     exact ⟨_, by first | rfl | (simp [errW_none, errW_some] <;> rfl) | (simp [*, errW_none, errW_some] <;> rfl), Kd.R_mono (r_ HO402) (fun _ hk => trivial), hB_ w⟩

end Go.Proofs.Ytbpobnlkfpjijaa.Pr
end
-- Pr54
section
namespace Go.Proofs.Ytbpobnlkfpjijaa.Pr
open Go.RowKit Go.Proofs.YtbpobnlkfpjijaaW.PrintWords Go.Proofs.YtbpobnlkfpjijaaW.PrintLast Go.Proofs.YtbpobnlkfpjijaaW.PrintMore
attribute [local go_sem] max2_int min2_int max_two min_two max_three min_three max_four min_four   -- for this text's walks alone
set_option linter.unusedVariables false
set_option linter.unusedSimpArgs false

attribute [local go_sem] Go.Proofs.Aid.cell_set_row
def tallystickref04_Cmp.l0 : Nat → List Int → List Int → Int → Option (Int)
 | 0, _, _, _ => none
 | k + 1, x0, x1, x5 => if x5 ≥ 0 then (if 0 ≤ x5 then (if x5 < (x0.length : Int) then (if x5 < (x1.length : Int) then (if (rd x0 x5) < (rd x1 x5) then (some (-1)) else (if (rd x0 x5) > (rd x1 x5) then (some 1) else (tallystickref04_Cmp.l0 k x0 x1 (wrap64 (x5 - 1))))) else (none)) else (none)) else (none)) else (some 0)
def tallystickref04_Cmp.f (k : Nat) (l0 : List Int) (l1 : List Int) : Option (Int) := if (l0.length : Int) = (l1.length : Int) then (tallystickref04_Cmp.l0 k l0 l1 (wrap64 ((l0.length : Int) - 1))) else (if (l0.length : Int) < (l1.length : Int) then (some (-1)) else (some 1))
theorem tallystickref04_Cmp.mono_l : ∀ k, (∀ y0 y1 y2, LeO (tallystickref04_Cmp.l0 k y0 y1 y2) (tallystickref04_Cmp.l0 (k + 1) y0 y1 y2))
 | 0 => fun _ _ _ r h => by simp [tallystickref04_Cmp.l0] at h
 | k + 1 => by
  have ih0 := tallystickref04_Cmp.mono_l k
  intro y0 y1 y2
  unfold tallystickref04_Cmp.l0
  repeat' first
  | (with_reducible exact ih0 _ _ _)
  | (with_reducible exact LeO.refl _)
  | (with_reducible exact LeO.none _)
  | (with_reducible refine LeO.ite ?_ ?_)
  | (with_reducible refine LeO.bind ?_ (fun _ => ?_))
  | exact ih0 _ _ _
  | exact LeO.none _
  | refine LeO.ite ?_ ?_
  | refine LeO.bind ?_ (fun _ => ?_)
theorem tallystickref04_Cmp.mono : ∀ a0 a1 k, LeO (tallystickref04_Cmp.f k a0 a1) (tallystickref04_Cmp.f (k + 1) a0 a1) := by
 intro a0 a1 k
 have ih0 := tallystickref04_Cmp.mono_l k
 unfold tallystickref04_Cmp.f
 repeat' first
   | (with_reducible exact ih0 _ _ _)
   | (with_reducible exact LeO.refl _)
   | (with_reducible exact LeO.none _)
   | (with_reducible refine LeO.ite ?_ ?_)
   | (with_reducible refine LeO.bind ?_ (fun _ => ?_))
   | exact ih0 _ _ _
   | exact LeO.none _
   | refine LeO.ite ?_ ?_
   | refine LeO.bind ?_ (fun _ => ?_)
set_option maxHeartbeats 8000000 in
set_option maxRecDepth 100000 in
theorem tallystickref04_Cmp.calls (k : Nat) (A0 : Option Addr) (c0 : Nat) (l0 : List Int) (A1 : Option Addr) (c1 : Nat) (l1 : List Int) (r : Int) (w : World) (hr0 : Kd.C (Kd.int .i64) w A0 l0.length l0) (hc0 : l0.length ≤ c0) (hr1 : Kd.C (Kd.int .i64) w A1 l1.length l1) (hc1 : l1.length ≤ c1) (h : tallystickref04_Cmp.f k l0 l1 = some r) :
  Calls Try.prog 82 #[.slice A0 l0.length c0, .slice A1 l1.length c1] w fun e w' => e = .returned (.int .i64 r) ∧ Drawn0 w w' := by
 have HR0 := A_ hr0; have HC0 := A_ hc0; clear hr0 hc0; have HR1 := A_ hr1; have HC1 := A_ hc1; clear hr1 hc1
 have H : (if (l0.length : Int) = (l1.length : Int) then (tallystickref04_Cmp.l0 k l0 l1 (wrap64 ((l0.length : Int) - 1))) else (if (l0.length : Int) < (l1.length : Int) then (some (-1)) else (some 1))) = some r := h
 clear h
 by_cases c3 : (l0.length : Int) = (l1.length : Int)
 ·rw [if_pos c3] at H
  have c3b0 : ((l0.length : Int) == (l1.length : Int)) = true := beq_iff_eq.mpr c3
  have c3b1 : ((l0.length : Int) != (l1.length : Int)) = false := bne_eq_false_iff_eq.mpr c3
  have c3b2 : (l0.length == l1.length) = true := by first | simpa using c3 | (simp at c3 ⊢; omega)
  clear c3
  have H' := A_ H
  clear H
  go_enter Try.func82, Try.ntmps82
  go_wp2
  repeat (go_quiet (fail); try go_wp2)
  go_loopg [5] k (fun kq v5 w' => ∃ (x5_1 : Int), v5 = .int .i64 x5_1 ∧ AsC (tallystickref04_Cmp.l0 kq l0 l1 x5_1 = some r) ∧ AsC (kq ≤ k) ∧ Drawn0 w w')
  case atStart => exact ⟨(wrap64 ((l0.length : Int) - 1)), (by first | rfl | (simp; done) | (simp [*]; done)), H', ⟨Nat.le_refl _⟩, by repeat (first | exact Drawn0.refl _ | apply Drawn0.step)⟩
  case round =>
   clear H'; try clear c1; try clear p2; try clear c3; try clear c3b0; try clear c3b1; try clear c3b2
   obtain ⟨x5_1, rfl, HA, HK1, ⟨m1, rfl⟩⟩ := hrel
   cases gk with
   | zero => exact absurd HA.out (by simp [tallystickref04_Cmp.l0])
   | succ k1 =>
    have H := HA.out; clear HA
    simp only [tallystickref04_Cmp.l0] at H
    by_cases c4 : x5_1 ≥ 0
    ·rw [if_pos c4] at H
     have c4b0 : decide (0 ≤ x5_1) = true := decide_eq_true c4
     clear c4
     by_cases c5 : 0 ≤ x5_1
     ·rw [if_pos c5] at H
      have c5b0 : decide (0 ≤ x5_1) = true := decide_eq_true c5
      clear c5
      by_cases c6 : x5_1 < (l0.length : Int)
      ·rw [if_pos c6] at H
       have c6b0 : decide (x5_1 < (l0.length : Int)) = true := decide_eq_true c6
       clear c6
       by_cases c7 : x5_1 < (l1.length : Int)
       ·rw [if_pos c7] at H
        have c7b0 : decide (x5_1 < (l1.length : Int)) = true := decide_eq_true c7
        clear c7
        by_cases c8 : (rd l0 x5_1) < (rd l1 x5_1)
        ·rw [if_pos c8] at H
         have c8b0 : decide ((rd l0 x5_1) < (rd l1 x5_1)) = true := decide_eq_true c8
         clear c8
         obtain rfl := Option.some.inj H
         have p403 : 0 ≤ (x5_1 : Int) := of_decide_eq_true (by first | (with_reducible assumption) | assumption)
         have q403 : x5_1 < (l0.length : Int) := of_decide_eq_true (by first | (with_reducible assumption) | assumption)
         obtain ⟨ad403, e403, hx403_0⟩ := Kd.at_int HR0.out x5_1 p403 q403
         cases e403
         replace p403 := eq_true p403
         replace q403 := eq_true q403
         have p404 : 0 ≤ (x5_1 : Int) := of_decide_eq_true (by first | (with_reducible assumption) | assumption)
         have q404 : x5_1 < (l1.length : Int) := of_decide_eq_true (by first | (with_reducible assumption) | assumption)
         obtain ⟨ad404, e404, hx404_0⟩ := Kd.at_int HR1.out x5_1 p404 q404
         cases e404
         replace p404 := eq_true p404
         replace q404 := eq_true q404
         go_wp2
         repeat (go_quiet (fail); try go_wp2)
         go_ret
         exact ⟨by first | rfl | (simp; done) | (simp [*]; done), by repeat (first | exact Drawn0.refl _ | apply Drawn0.step)⟩
        rw [if_neg c8] at H
        have c8b0 : decide ((rd l0 x5_1) < (rd l1 x5_1)) = false := decide_eq_false c8
        clear c8
        by_cases c9 : (rd l0 x5_1) > (rd l1 x5_1)
        ·rw [if_pos c9] at H
         have c9b0 : decide ((rd l1 x5_1) < (rd l0 x5_1)) = true := decide_eq_true c9
         clear c9
         obtain rfl := Option.some.inj H
         have p403 : 0 ≤ (x5_1 : Int) := of_decide_eq_true (by first | (with_reducible assumption) | assumption)
         have q403 : x5_1 < (l0.length : Int) := of_decide_eq_true (by first | (with_reducible assumption) | assumption)
         obtain ⟨ad403, e403, hx403_0⟩ := Kd.at_int HR0.out x5_1 p403 q403
         cases e403
         replace p403 := eq_true p403
         replace q403 := eq_true q403
         have p404 : 0 ≤ (x5_1 : Int) := of_decide_eq_true (by first | (with_reducible assumption) | assumption)
         have q404 : x5_1 < (l1.length : Int) := of_decide_eq_true (by first | (with_reducible assumption) | assumption)
         obtain ⟨ad404, e404, hx404_0⟩ := Kd.at_int HR1.out x5_1 p404 q404
         cases e404
         replace p404 := eq_true p404
         replace q404 := eq_true q404
         have p405 : 0 ≤ (x5_1 : Int) := of_decide_eq_true (by first | (with_reducible assumption) | assumption)
         have q405 : x5_1 < (l0.length : Int) := of_decide_eq_true (by first | (with_reducible assumption) | assumption)
         obtain ⟨ad405, e405, hx405_0⟩ := Kd.at_int HR0.out x5_1 p405 q405
         obtain rfl : ad403 = ad405 := (by injection e405)
         replace p405 := eq_true p405
         replace q405 := eq_true q405
         have p406 : 0 ≤ (x5_1 : Int) := of_decide_eq_true (by first | (with_reducible assumption) | assumption)
         have q406 : x5_1 < (l1.length : Int) := of_decide_eq_true (by first | (with_reducible assumption) | assumption)
         obtain ⟨ad406, e406, hx406_0⟩ := Kd.at_int HR1.out x5_1 p406 q406
         obtain rfl : ad404 = ad406 := (by injection e406)
         replace p406 := eq_true p406
         replace q406 := eq_true q406
         go_wp2
         repeat (go_quiet (fail); try go_wp2)
         go_ret
         exact ⟨by first | rfl | (simp; done) | (simp [*]; done), by repeat (first | exact Drawn0.refl _ | apply Drawn0.step)⟩
        rw [if_neg c9] at H
        have c9b0 : decide ((rd l1 x5_1) < (rd l0 x5_1)) = false := decide_eq_false c9
        clear c9
        have H' := A_ H
        clear H
        have p403 : 0 ≤ (x5_1 : Int) := of_decide_eq_true (by first | (with_reducible assumption) | assumption)
        have q403 : x5_1 < (l0.length : Int) := of_decide_eq_true (by first | (with_reducible assumption) | assumption)
        obtain ⟨ad403, e403, hx403_0⟩ := Kd.at_int HR0.out x5_1 p403 q403
        cases e403
        replace p403 := eq_true p403
        replace q403 := eq_true q403
        have p404 : 0 ≤ (x5_1 : Int) := of_decide_eq_true (by first | (with_reducible assumption) | assumption)
        have q404 : x5_1 < (l1.length : Int) := of_decide_eq_true (by first | (with_reducible assumption) | assumption)
        obtain ⟨ad404, e404, hx404_0⟩ := Kd.at_int HR1.out x5_1 p404 q404
        cases e404
        replace p404 := eq_true p404
        replace q404 := eq_true q404
        have p405 : 0 ≤ (x5_1 : Int) := of_decide_eq_true (by first | (with_reducible assumption) | assumption)
        have q405 : x5_1 < (l0.length : Int) := of_decide_eq_true (by first | (with_reducible assumption) | assumption)
        obtain ⟨ad405, e405, hx405_0⟩ := Kd.at_int HR0.out x5_1 p405 q405
        obtain rfl : ad403 = ad405 := (by injection e405)
        replace p405 := eq_true p405
        replace q405 := eq_true q405
        have p406 : 0 ≤ (x5_1 : Int) := of_decide_eq_true (by first | (with_reducible assumption) | assumption)
        have q406 : x5_1 < (l1.length : Int) := of_decide_eq_true (by first | (with_reducible assumption) | assumption)
        obtain ⟨ad406, e406, hx406_0⟩ := Kd.at_int HR1.out x5_1 p406 q406
        obtain rfl : ad404 = ad406 := (by injection e406)
        replace p406 := eq_true p406
        replace q406 := eq_true q406
        go_wp2
        repeat (go_quiet (fail); try go_wp2)
        go_roundg k1
        case measure => have := HK1.out; omega
        case rel => exact ⟨(wrap64 (x5_1 - 1)), (by first | rfl | (simp; done) | (simp [*]; done)), H', ⟨by have := HK1.out; omega⟩, by repeat (first | exact Drawn0.refl _ | apply Drawn0.step)⟩
       rw [if_neg c7] at H
       exact absurd H (by simp)
      rw [if_neg c6] at H
      exact absurd H (by simp)
     rw [if_neg c5] at H
     exact absurd H (by simp)
    rw [if_neg c4] at H
    have c4b0 : decide (0 ≤ x5_1) = false := decide_eq_false c4
    clear c4
    obtain rfl := Option.some.inj H
    go_wp2
    repeat (go_quiet (fail); try go_wp2)
    go_ret
    exact ⟨by first | rfl | (simp; done) | (simp [*]; done), by repeat (first | exact Drawn0.refl _ | apply Drawn0.step)⟩
 rw [if_neg c3] at H
 have c3b0 : ((l0.length : Int) == (l1.length : Int)) = false := beq_eq_false_iff_ne.mpr c3
 have c3b1 : ((l0.length : Int) != (l1.length : Int)) = true := bne_iff_ne.mpr c3
 have c3b2 : (l0.length == l1.length) = false := by first | simpa using c3 | (simp at c3 ⊢; omega)
 by_cases c10 : (l0.length : Int) < (l1.length : Int)
 ·rw [if_pos c10] at H
  have c10b0 : decide ((l0.length : Int) < (l1.length : Int)) = true := decide_eq_true c10
  have c10b1 : decide (l0.length < l1.length) = true := decide_eq_true (Int.ofNat_lt.mp c10)
  clear c10
  obtain rfl := Option.some.inj H
  go_enter Try.func82, Try.ntmps82
  go_wp2
  repeat (go_quiet (fail); try go_wp2)
  go_ret
  exact ⟨by first | rfl | (simp; done) | (simp [*]; done), by repeat (first | exact Drawn0.refl _ | apply Drawn0.step)⟩
 rw [if_neg c10] at H
 have c10b0 : decide ((l0.length : Int) < (l1.length : Int)) = false := decide_eq_false c10
 have c10b1 : decide (l0.length < l1.length) = false := decide_eq_false (fun h => c10 (Int.ofNat_lt.mpr h))
 clear c10
 obtain rfl := Option.some.inj H
 go_enter Try.func82, Try.ntmps82
 go_wp2
 repeat (go_quiet (fail); try go_wp2)
 go_ret
 exact ⟨by first | rfl | (simp; done) | (simp [*]; done), by repeat (first | exact Drawn0.refl _ | apply Drawn0.step)⟩

end Go.Proofs.Ytbpobnlkfpjijaa.Pr
end
-- Pr55
section
namespace Go.Proofs.Ytbpobnlkfpjijaa.Pr
open Go.RowKit Go.Proofs.YtbpobnlkfpjijaaW.PrintWords Go.Proofs.YtbpobnlkfpjijaaW.PrintLast Go.Proofs.YtbpobnlkfpjijaaW.PrintMore
attribute [local go_sem] max2_int min2_int max_two min_two max_three min_three max_four min_four   -- for this text's walks alone
set_option linter.unusedVariables false
set_option linter.unusedSimpArgs false

attribute [local go_sem] Go.Proofs.Aid.cell_set_row
def tallystickref04_Sub.l0 : Nat → List Int → List Int → List Int → Int → Int → Option (List Int)
 | 0, _, _, _, _, _ => none
 | k + 1, x0, x1, x5, x6, x7 => if x7 < (x0.length : Int) then (if 0 ≤ x7 then ((tallystickref04_digit.f x1 x7).bind fun t408 => (if (wrap64 ((wrap64 ((rd x0 x7) - t408)) - x6)) < 0 then (if x5.length < 17592186044416 then (tallystickref04_Sub.l0 k x0 x1 (x5 ++ [wrap64 ((wrap64 ((wrap64 ((rd x0 x7) - t408)) - x6)) + 65536)]) 1 (wrap64 (x7 + 1))) else (none)) else (if x5.length < 17592186044416 then (tallystickref04_Sub.l0 k x0 x1 (x5 ++ [wrap64 ((wrap64 ((rd x0 x7) - t408)) - x6)]) 0 (wrap64 (x7 + 1))) else (none)))) else (none)) else ((tallystickref04_Trim.f k x5).bind fun t415 => (some t415))
def tallystickref04_Sub.f (k : Nat) (l0 : List Int) (l1 : List Int) : Option (List Int) := tallystickref04_Sub.l0 k l0 l1 ([] : List Int) 0 0
theorem tallystickref04_Sub.mono_l : ∀ k, (∀ y0 y1 y2 y3 y4, LeO (tallystickref04_Sub.l0 k y0 y1 y2 y3 y4) (tallystickref04_Sub.l0 (k + 1) y0 y1 y2 y3 y4))
 | 0 => fun _ _ _ _ _ r h => by simp [tallystickref04_Sub.l0] at h
 | k + 1 => by
  have ih0 := tallystickref04_Sub.mono_l k
  intro y0 y1 y2 y3 y4
  unfold tallystickref04_Sub.l0
  repeat' first
  | (with_reducible exact ih0 _ _ _ _ _)
  | (with_reducible exact tallystickref04_Trim.mono _ _)
  | (with_reducible exact LeO.refl _)
  | (with_reducible exact LeO.none _)
  | (with_reducible refine LeO.ite ?_ ?_)
  | (with_reducible refine LeO.bind ?_ (fun _ => ?_))
  | exact ih0 _ _ _ _ _
  | exact tallystickref04_Trim.mono _ _
  | exact LeO.none _
  | refine LeO.ite ?_ ?_
  | refine LeO.bind ?_ (fun _ => ?_)
theorem tallystickref04_Sub.mono : ∀ a0 a1 k, LeO (tallystickref04_Sub.f k a0 a1) (tallystickref04_Sub.f (k + 1) a0 a1) := by
 intro a0 a1 k
 have ih0 := tallystickref04_Sub.mono_l k
 unfold tallystickref04_Sub.f
 repeat' first
   | (with_reducible exact ih0 _ _ _ _ _)
   | (with_reducible exact tallystickref04_Trim.mono _ _)
   | (with_reducible exact LeO.refl _)
   | (with_reducible exact LeO.none _)
   | (with_reducible refine LeO.ite ?_ ?_)
   | (with_reducible refine LeO.bind ?_ (fun _ => ?_))
   | exact ih0 _ _ _ _ _
   | exact tallystickref04_Trim.mono _ _
   | exact LeO.none _
   | refine LeO.ite ?_ ?_
   | refine LeO.bind ?_ (fun _ => ?_)
set_option maxHeartbeats 8000000 in
set_option maxRecDepth 100000 in
theorem tallystickref04_Sub.calls (k : Nat) (A0 : Option Addr) (c0 : Nat) (l0 : List Int) (A1 : Option Addr) (c1 : Nat) (l1 : List Int) (r : List Int) (w : World) (hr0 : Kd.C (Kd.int .i64) w A0 l0.length l0) (hc0 : l0.length ≤ c0) (hr1 : Kd.C (Kd.int .i64) w A1 l1.length l1) (hc1 : l1.length ≤ c1) (h : tallystickref04_Sub.f k l0 l1 = some r) :
  Calls Try.prog 83 #[.slice A0 l0.length c0, .slice A1 l1.length c1] w fun e w' => ∃ v0_ : Value, e = .returned (v0_) ∧ Kd.R (Kd.int .i64) 3 w' w.heap.size (fun _ => True) v0_ r ∧ Below w.heap.size w w' := by
 have HR0 := A_ hr0; have HC0 := A_ hc0; clear hr0 hc0; have HR1 := A_ hr1; have HC1 := A_ hc1; clear hr1 hc1; have HB := A_ (Below.refl w.heap.size w)
 have H : (tallystickref04_Sub.l0 k l0 l1 ([] : List Int) 0 0) = some r := h
 clear h
 have H' := A_ H
 clear H
 go_enter Try.func83, Try.ntmps83
 go_wp2
 repeat (go_quiet (fail); try go_wp2)
 go_loopg [5, 6, 7] k (fun kq v5 v6 v7 w' => ∃ (x5_1 : List Int) (x6_1 : Int) (x7_1 : Int), v6 = .int .i64 x6_1 ∧ v7 = .int .i64 x7_1 ∧ AsC (tallystickref04_Sub.l0 kq l0 l1 x5_1 x6_1 x7_1 = some r) ∧ AsC (kq ≤ k) ∧ AsC (Kd.R (Kd.int .i64) 3 w' w.heap.size (fun _ => True) v5 x5_1) ∧ AsC (Below w.heap.size w w'))
 case atStart => exact ⟨(([] : List Int)), (0), (0), (by first | rfl | (simp; done) | (simp [*]; done)), (by first | rfl | (simp; done) | (simp [*]; done)), H', ⟨Nat.le_refl _⟩, ⟨by first | exact Kd.R_nil _ _ _ _ _ | exact Kd.N_nil _ _ _ _ _ | exact Kd.V_nil _ _ _ _ _ | exact Kd.Q_nil _ _ _ _ _ | exact Kd.S_nil _ _ _ _ _⟩, ⟨hB_ w⟩⟩
 case round =>
  clear H'; try clear c1; try clear p2
  obtain ⟨x5_1, x6_1, x7_1, rfl, rfl, HA, HK1, HO_5, HB⟩ := hrel
  cases gk with
  | zero => exact absurd HA.out (by simp [tallystickref04_Sub.l0])
  | succ k1 =>
   have H := HA.out; clear HA
   simp only [tallystickref04_Sub.l0] at H
   by_cases c3 : x7_1 < (l0.length : Int)
   ·rw [if_pos c3] at H
    have c3b0 : decide (x7_1 < (l0.length : Int)) = true := decide_eq_true c3
    clear c3
    by_cases c4 : 0 ≤ x7_1
    ·rw [if_pos c4] at H
     have c4b0 : decide (0 ≤ x7_1) = true := decide_eq_true c4
     clear c4
     replace H := Option.bind_eq_some_iff.mp H
     obtain ⟨t408, A50, H⟩ := H
     replace H : (if (wrap64 ((wrap64 ((rd l0 x7_1) - t408)) - x6_1)) < 0 then (if x5_1.length < 17592186044416 then (tallystickref04_Sub.l0 k1 l0 l1 (x5_1 ++ [wrap64 ((wrap64 ((wrap64 ((rd l0 x7_1) - t408)) - x6_1)) + 65536)]) 1 (wrap64 (x7_1 + 1))) else (none)) else (if x5_1.length < 17592186044416 then (tallystickref04_Sub.l0 k1 l0 l1 (x5_1 ++ [wrap64 ((wrap64 ((rd l0 x7_1) - t408)) - x6_1)]) 0 (wrap64 (x7_1 + 1))) else (none))) = some r := H
     have A5 := A_ A50; clear A50
     by_cases c6 : (wrap64 ((wrap64 ((rd l0 x7_1) - t408)) - x6_1)) < 0
     ·rw [if_pos c6] at H
      have c6b0 : decide ((wrap64 ((wrap64 ((rd l0 x7_1) - t408)) - x6_1)) < 0) = true := decide_eq_true c6
      clear c6
      by_cases c7 : x5_1.length < 17592186044416
      ·rw [if_pos c7] at H
       have LMc7 := A_ c7; clear c7
       obtain ⟨y409, hy409⟩ : ∃ y_ : List Int, y_ = (x5_1 ++ [wrap64 ((wrap64 ((wrap64 ((rd l0 x7_1) - t408)) - x6_1)) + 65536)]) := ⟨_, rfl⟩
       replace H : (tallystickref04_Sub.l0 k1 l0 l1 y409 1 (wrap64 (x7_1 + 1))) = some r := by first | (rw [hy409]; with_reducible exact H) | (have H2_ := (Option.bind_some _ _).symm.trans H; rw [hy409]; with_reducible exact H2_) | (have H2_ := (Option.bind_some _ _).symm.trans H; with_reducible exact H2_) | with_reducible exact H | (rw [hy409]; exact H) | exact H
       have Ny409 := A_ hy409; clear hy409
       have H' := A_ H
       clear H
       have p407 : 0 ≤ (x7_1 : Int) := of_decide_eq_true (by first | (with_reducible assumption) | assumption)
       have q407 : x7_1 < (l0.length : Int) := of_decide_eq_true (by first | (with_reducible assumption) | assumption)
       obtain ⟨ad407, e407, hx407_0⟩ := Kd.at_int HR0.out x7_1 p407 q407
       cases e407
       replace hx407_0 := (HB.out.cell (World.block_lt_of_cell? w _ hx407_0)).trans hx407_0
       replace p407 := eq_true p407
       replace q407 := eq_true q407
       go_wp2_with (first | (go_at_call 101; (with_reducible refine (tallystickref04_digit.calls _ _ l1 x7_1 t408 _ ?side1 ?side2 A5.out).mono ?_); (case side1 => repeat (first | exact (Kd.C_below HR1.out HB.out) | (with_reducible refine Kd.C_alloc ?_ _) | (with_reducible refine Kd.C_drewN ?_ _) | (with_reducible refine Kd.C_drew ?_))); (case side2 => exact HC1.out); rintro e w' ⟨rfl, ⟨nd, rfl⟩⟩; (try first | exact ⟨rfl, _, World.drewN_drewN _ _ _⟩ | exact ⟨rfl, _, Eq.trans (World.drewN_drewN _ _ _) (congrArg (World.drewN _) (Nat.add_assoc _ _ _))⟩)) | ((with_reducible refine gate_builtin (b := .append) (xs := #[.tmp 29, .tmp 31]) rfl ?_); at_builtin; refine Kd.R_append (Kd.int .i64) (w0 := w) w.heap.size rfl (.tmp 29) (.tmp 31) 110 3 (.int .i64 0) 8 rfl Try.underlying110 info3 rfl (by decide) (by omega) u5 x5_1 (wrap64 ((wrap64 ((wrap64 ((rd l0 x7_1) - t408)) - x6_1)) + 65536)) [.int .i64 (wrap64 ((wrap64 ((wrap64 ((rd l0 x7_1) - t408)) - x6_1)) + 65536))] (fun _ => True) (fun _ => False) rfl rfl ?aP (fun _ hk => hk.elim) ?aF ?aO ?aB ?aS ?aL ?_; (case aP => exact rfl); (case aB => exact (hB_ w)); (case aF => exact (fun _ _ => trivial)); (case aO => exact (r_ HO_5)); (case aS => exact (below_size (hB_ w))); (case aL => have := LMc7.out; omega); intro v410 w8 ho hb hg hat; rw [← Ny409.out] at ho; replace HB := A_ hb; have HO411 := A_ ho; clear HO_5; clear ho hb hg hat))
       repeat (go_quiet (first | (go_at_call 101; (with_reducible refine (tallystickref04_digit.calls _ _ l1 x7_1 t408 _ ?side1 ?side2 A5.out).mono ?_); (case side1 => repeat (first | exact (Kd.C_below HR1.out HB.out) | (with_reducible refine Kd.C_alloc ?_ _) | (with_reducible refine Kd.C_drewN ?_ _) | (with_reducible refine Kd.C_drew ?_))); (case side2 => exact HC1.out); rintro e w' ⟨rfl, ⟨nd, rfl⟩⟩; (try first | exact ⟨rfl, _, World.drewN_drewN _ _ _⟩ | exact ⟨rfl, _, Eq.trans (World.drewN_drewN _ _ _) (congrArg (World.drewN _) (Nat.add_assoc _ _ _))⟩)) | ((with_reducible refine gate_builtin (b := .append) (xs := #[.tmp 29, .tmp 31]) rfl ?_); at_builtin; refine Kd.R_append (Kd.int .i64) (w0 := w) w.heap.size rfl (.tmp 29) (.tmp 31) 110 3 (.int .i64 0) 8 rfl Try.underlying110 info3 rfl (by decide) (by omega) u5 x5_1 (wrap64 ((wrap64 ((wrap64 ((rd l0 x7_1) - t408)) - x6_1)) + 65536)) [.int .i64 (wrap64 ((wrap64 ((wrap64 ((rd l0 x7_1) - t408)) - x6_1)) + 65536))] (fun _ => True) (fun _ => False) rfl rfl ?aP (fun _ hk => hk.elim) ?aF ?aO ?aB ?aS ?aL ?_; (case aP => exact rfl); (case aB => exact (hB_ w)); (case aF => exact (fun _ _ => trivial)); (case aO => exact (r_ HO_5)); (case aS => exact (below_size (hB_ w))); (case aL => have := LMc7.out; omega); intro v410 w8 ho hb hg hat; rw [← Ny409.out] at ho; replace HB := A_ hb; have HO411 := A_ ho; clear HO_5; clear ho hb hg hat)); try go_wp2_with (first | (go_at_call 101; (with_reducible refine (tallystickref04_digit.calls _ _ l1 x7_1 t408 _ ?side1 ?side2 A5.out).mono ?_); (case side1 => repeat (first | exact (Kd.C_below HR1.out HB.out) | (with_reducible refine Kd.C_alloc ?_ _) | (with_reducible refine Kd.C_drewN ?_ _) | (with_reducible refine Kd.C_drew ?_))); (case side2 => exact HC1.out); rintro e w' ⟨rfl, ⟨nd, rfl⟩⟩; (try first | exact ⟨rfl, _, World.drewN_drewN _ _ _⟩ | exact ⟨rfl, _, Eq.trans (World.drewN_drewN _ _ _) (congrArg (World.drewN _) (Nat.add_assoc _ _ _))⟩)) | ((with_reducible refine gate_builtin (b := .append) (xs := #[.tmp 29, .tmp 31]) rfl ?_); at_builtin; refine Kd.R_append (Kd.int .i64) (w0 := w) w.heap.size rfl (.tmp 29) (.tmp 31) 110 3 (.int .i64 0) 8 rfl Try.underlying110 info3 rfl (by decide) (by omega) u5 x5_1 (wrap64 ((wrap64 ((wrap64 ((rd l0 x7_1) - t408)) - x6_1)) + 65536)) [.int .i64 (wrap64 ((wrap64 ((wrap64 ((rd l0 x7_1) - t408)) - x6_1)) + 65536))] (fun _ => True) (fun _ => False) rfl rfl ?aP (fun _ hk => hk.elim) ?aF ?aO ?aB ?aS ?aL ?_; (case aP => exact rfl); (case aB => exact (hB_ w)); (case aF => exact (fun _ _ => trivial)); (case aO => exact (r_ HO_5)); (case aS => exact (below_size (hB_ w))); (case aL => have := LMc7.out; omega); intro v410 w8 ho hb hg hat; rw [← Ny409.out] at ho; replace HB := A_ hb; have HO411 := A_ ho; clear HO_5; clear ho hb hg hat)))
       go_roundg k1
       case measure => have := HK1.out; omega
       case rel => exact ⟨(y409), (1), (wrap64 (x7_1 + 1)), (by first | rfl | (simp; done) | (simp [*]; done)), (by first | rfl | (simp; done) | (simp [*]; done)), H', ⟨by have := HK1.out; omega⟩, ⟨r_ HO411⟩, ⟨hB_ w⟩⟩
      rw [if_neg c7] at H
      exact absurd H (by simp)
     rw [if_neg c6] at H
     have c6b0 : decide ((wrap64 ((wrap64 ((rd l0 x7_1) - t408)) - x6_1)) < 0) = false := decide_eq_false c6
     clear c6
     by_cases c9 : x5_1.length < 17592186044416
     ·rw [if_pos c9] at H
      have LMc9 := A_ c9; clear c9
      obtain ⟨y412, hy412⟩ : ∃ y_ : List Int, y_ = (x5_1 ++ [wrap64 ((wrap64 ((rd l0 x7_1) - t408)) - x6_1)]) := ⟨_, rfl⟩
      replace H : (tallystickref04_Sub.l0 k1 l0 l1 y412 0 (wrap64 (x7_1 + 1))) = some r := by first | (rw [hy412]; with_reducible exact H) | (have H2_ := (Option.bind_some _ _).symm.trans H; rw [hy412]; with_reducible exact H2_) | (have H2_ := (Option.bind_some _ _).symm.trans H; with_reducible exact H2_) | with_reducible exact H | (rw [hy412]; exact H) | exact H
      have Ny412 := A_ hy412; clear hy412
      have H' := A_ H
      clear H
      have p407 : 0 ≤ (x7_1 : Int) := of_decide_eq_true (by first | (with_reducible assumption) | assumption)
      have q407 : x7_1 < (l0.length : Int) := of_decide_eq_true (by first | (with_reducible assumption) | assumption)
      obtain ⟨ad407, e407, hx407_0⟩ := Kd.at_int HR0.out x7_1 p407 q407
      cases e407
      replace hx407_0 := (HB.out.cell (World.block_lt_of_cell? w _ hx407_0)).trans hx407_0
      replace p407 := eq_true p407
      replace q407 := eq_true q407
      go_wp2_with (first | (go_at_call 101; (with_reducible refine (tallystickref04_digit.calls _ _ l1 x7_1 t408 _ ?side1 ?side2 A5.out).mono ?_); (case side1 => repeat (first | exact (Kd.C_below HR1.out HB.out) | (with_reducible refine Kd.C_alloc ?_ _) | (with_reducible refine Kd.C_drewN ?_ _) | (with_reducible refine Kd.C_drew ?_))); (case side2 => exact HC1.out); rintro e w' ⟨rfl, ⟨nd, rfl⟩⟩; (try first | exact ⟨rfl, _, World.drewN_drewN _ _ _⟩ | exact ⟨rfl, _, Eq.trans (World.drewN_drewN _ _ _) (congrArg (World.drewN _) (Nat.add_assoc _ _ _))⟩)) | ((with_reducible refine gate_builtin (b := .append) (xs := #[.tmp 29, .tmp 31]) rfl ?_); at_builtin; refine Kd.R_append (Kd.int .i64) (w0 := w) w.heap.size rfl (.tmp 29) (.tmp 31) 110 3 (.int .i64 0) 8 rfl Try.underlying110 info3 rfl (by decide) (by omega) u5 x5_1 (wrap64 ((wrap64 ((rd l0 x7_1) - t408)) - x6_1)) [.int .i64 (wrap64 ((wrap64 ((rd l0 x7_1) - t408)) - x6_1))] (fun _ => True) (fun _ => False) rfl rfl ?aP (fun _ hk => hk.elim) ?aF ?aO ?aB ?aS ?aL ?_; (case aP => exact rfl); (case aB => exact (hB_ w)); (case aF => exact (fun _ _ => trivial)); (case aO => exact (r_ HO_5)); (case aS => exact (below_size (hB_ w))); (case aL => have := LMc9.out; omega); intro v413 w10 ho hb hg hat; rw [← Ny412.out] at ho; replace HB := A_ hb; have HO414 := A_ ho; clear HO_5; clear ho hb hg hat))
      repeat (go_quiet (first | (go_at_call 101; (with_reducible refine (tallystickref04_digit.calls _ _ l1 x7_1 t408 _ ?side1 ?side2 A5.out).mono ?_); (case side1 => repeat (first | exact (Kd.C_below HR1.out HB.out) | (with_reducible refine Kd.C_alloc ?_ _) | (with_reducible refine Kd.C_drewN ?_ _) | (with_reducible refine Kd.C_drew ?_))); (case side2 => exact HC1.out); rintro e w' ⟨rfl, ⟨nd, rfl⟩⟩; (try first | exact ⟨rfl, _, World.drewN_drewN _ _ _⟩ | exact ⟨rfl, _, Eq.trans (World.drewN_drewN _ _ _) (congrArg (World.drewN _) (Nat.add_assoc _ _ _))⟩)) | ((with_reducible refine gate_builtin (b := .append) (xs := #[.tmp 29, .tmp 31]) rfl ?_); at_builtin; refine Kd.R_append (Kd.int .i64) (w0 := w) w.heap.size rfl (.tmp 29) (.tmp 31) 110 3 (.int .i64 0) 8 rfl Try.underlying110 info3 rfl (by decide) (by omega) u5 x5_1 (wrap64 ((wrap64 ((rd l0 x7_1) - t408)) - x6_1)) [.int .i64 (wrap64 ((wrap64 ((rd l0 x7_1) - t408)) - x6_1))] (fun _ => True) (fun _ => False) rfl rfl ?aP (fun _ hk => hk.elim) ?aF ?aO ?aB ?aS ?aL ?_; (case aP => exact rfl); (case aB => exact (hB_ w)); (case aF => exact (fun _ _ => trivial)); (case aO => exact (r_ HO_5)); (case aS => exact (below_size (hB_ w))); (case aL => have := LMc9.out; omega); intro v413 w10 ho hb hg hat; rw [← Ny412.out] at ho; replace HB := A_ hb; have HO414 := A_ ho; clear HO_5; clear ho hb hg hat)); try go_wp2_with (first | (go_at_call 101; (with_reducible refine (tallystickref04_digit.calls _ _ l1 x7_1 t408 _ ?side1 ?side2 A5.out).mono ?_); (case side1 => repeat (first | exact (Kd.C_below HR1.out HB.out) | (with_reducible refine Kd.C_alloc ?_ _) | (with_reducible refine Kd.C_drewN ?_ _) | (with_reducible refine Kd.C_drew ?_))); (case side2 => exact HC1.out); rintro e w' ⟨rfl, ⟨nd, rfl⟩⟩; (try first | exact ⟨rfl, _, World.drewN_drewN _ _ _⟩ | exact ⟨rfl, _, Eq.trans (World.drewN_drewN _ _ _) (congrArg (World.drewN _) (Nat.add_assoc _ _ _))⟩)) | ((with_reducible refine gate_builtin (b := .append) (xs := #[.tmp 29, .tmp 31]) rfl ?_); at_builtin; refine Kd.R_append (Kd.int .i64) (w0 := w) w.heap.size rfl (.tmp 29) (.tmp 31) 110 3 (.int .i64 0) 8 rfl Try.underlying110 info3 rfl (by decide) (by omega) u5 x5_1 (wrap64 ((wrap64 ((rd l0 x7_1) - t408)) - x6_1)) [.int .i64 (wrap64 ((wrap64 ((rd l0 x7_1) - t408)) - x6_1))] (fun _ => True) (fun _ => False) rfl rfl ?aP (fun _ hk => hk.elim) ?aF ?aO ?aB ?aS ?aL ?_; (case aP => exact rfl); (case aB => exact (hB_ w)); (case aF => exact (fun _ _ => trivial)); (case aO => exact (r_ HO_5)); (case aS => exact (below_size (hB_ w))); (case aL => have := LMc9.out; omega); intro v413 w10 ho hb hg hat; rw [← Ny412.out] at ho; replace HB := A_ hb; have HO414 := A_ ho; clear HO_5; clear ho hb hg hat)))
      go_roundg k1
      case measure => have := HK1.out; omega
      case rel => exact ⟨(y412), (0), (wrap64 (x7_1 + 1)), (by first | rfl | (simp; done) | (simp [*]; done)), (by first | rfl | (simp; done) | (simp [*]; done)), H', ⟨by have := HK1.out; omega⟩, ⟨r_ HO414⟩, ⟨hB_ w⟩⟩
     rw [if_neg c9] at H
     exact absurd H (by simp)
    rw [if_neg c4] at H
    exact absurd H (by simp)
   rw [if_neg c3] at H
   have c3b0 : decide (x7_1 < (l0.length : Int)) = false := decide_eq_false c3
   clear c3
   replace H := Option.bind_eq_some_iff.mp H
   obtain ⟨t415, A110, H⟩ := H
   replace H : (some t415) = some r := H
   have A11 := A_ A110; clear A110
   obtain rfl := Option.some.inj H
   obtain ⟨Ao12, co12, eo12⟩ := Kd.R_slice HO_5.out
   subst eo12
   go_wp2_with (first | (go_at_call 84; (with_reducible refine (tallystickref04_Trim.calls k1 _ _ x5_1 t415 _ ?side1 ?side2 A11.out).mono ?_); (case side1 => repeat (first | exact (Kd.R_reads' HO_5.out).2.2 | (with_reducible refine Kd.C_alloc ?_ _) | (with_reducible refine Kd.C_drewN ?_ _) | (with_reducible refine Kd.C_drew ?_))); (case side2 => exact (Kd.R_reads' HO_5.out).2.1); rintro e w13 ⟨v416, rfl, ho0, hb⟩; have HO417 := A_ (Kd.R_lower (Kd.R_new' ho0 (Kd.R_lt (r_ HO_5))) (below_size (hB_ w))); replace HO_5 := A_ (Kd.R_elder' (r_ HO_5) (Kd.R_base ho0) hb); replace HB := A_ (below_step (hB_ w) hb); (try clear hb); (try clear hb2); (try clear hk); (try clear hi); (try clear ho0)))
   repeat (go_quiet (first | (go_at_call 84; (with_reducible refine (tallystickref04_Trim.calls k1 _ _ x5_1 t415 _ ?side1 ?side2 A11.out).mono ?_); (case side1 => repeat (first | exact (Kd.R_reads' HO_5.out).2.2 | (with_reducible refine Kd.C_alloc ?_ _) | (with_reducible refine Kd.C_drewN ?_ _) | (with_reducible refine Kd.C_drew ?_))); (case side2 => exact (Kd.R_reads' HO_5.out).2.1); rintro e w13 ⟨v416, rfl, ho0, hb⟩; have HO417 := A_ (Kd.R_lower (Kd.R_new' ho0 (Kd.R_lt (r_ HO_5))) (below_size (hB_ w))); replace HO_5 := A_ (Kd.R_elder' (r_ HO_5) (Kd.R_base ho0) hb); replace HB := A_ (below_step (hB_ w) hb); (try clear hb); (try clear hb2); (try clear hk); (try clear hi); (try clear ho0))); try go_wp2_with (first | (go_at_call 84; (with_reducible refine (tallystickref04_Trim.calls k1 _ _ x5_1 t415 _ ?side1 ?side2 A11.out).mono ?_); (case side1 => repeat (first | exact (Kd.R_reads' HO_5.out).2.2 | (with_reducible refine Kd.C_alloc ?_ _) | (with_reducible refine Kd.C_drewN ?_ _) | (with_reducible refine Kd.C_drew ?_))); (case side2 => exact (Kd.R_reads' HO_5.out).2.1); rintro e w13 ⟨v416, rfl, ho0, hb⟩; have HO417 := A_ (Kd.R_lower (Kd.R_new' ho0 (Kd.R_lt (r_ HO_5))) (below_size (hB_ w))); replace HO_5 := A_ (Kd.R_elder' (r_ HO_5) (Kd.R_base ho0) hb); replace HB := A_ (below_step (hB_ w) hb); (try clear hb); (try clear hb2); (try clear hk); (try clear hi); (try clear ho0))))
   go_ret
   exact ⟨_, by first | rfl | (simp [errW_none, errW_some] <;> rfl) | (simp [*, errW_none, errW_some] <;> rfl), Kd.R_mono (r_ HO417) (fun _ hk => trivial), hB_ w⟩

end Go.Proofs.Ytbpobnlkfpjijaa.Pr
end
-- Pr56
section
namespace Go.Proofs.Ytbpobnlkfpjijaa.Pr
open Go.RowKit Go.Proofs.YtbpobnlkfpjijaaW.PrintWords Go.Proofs.YtbpobnlkfpjijaaW.PrintLast Go.Proofs.YtbpobnlkfpjijaaW.PrintMore
attribute [local go_sem] max2_int min2_int max_two min_two max_three min_three max_four min_four   -- for this text's walks alone
set_option linter.unusedVariables false
set_option linter.unusedSimpArgs false

attribute [local go_sem] Go.Proofs.Aid.cell_set_row
def tallystickref17_plus.f (k : Nat) (l0 : List Int) (a1 : Bool) (l2 : List Int) (a3 : Bool) : Option (List Int × Bool) := if (a1 == a3) = true then ((tallystickref04_Add.f k l0 l2).bind fun t418 => (some (t418, a1))) else ((tallystickref04_Cmp.f k l0 l2).bind fun t421 => (if t421 ≥ 0 then ((tallystickref04_Sub.f k l0 l2).bind fun t422 => (some (t422, a1))) else ((tallystickref04_Sub.f k l2 l0).bind fun t425 => (some (t425, a3)))))
theorem tallystickref17_plus.mono : ∀ a0 a1 a2 a3 k, LeO (tallystickref17_plus.f k a0 a1 a2 a3) (tallystickref17_plus.f (k + 1) a0 a1 a2 a3) := by
 intro a0 a1 a2 a3 k
 unfold tallystickref17_plus.f
 repeat' first
   | (with_reducible exact tallystickref04_Add.mono _ _ _)
   | (with_reducible exact tallystickref04_Cmp.mono _ _ _)
   | (with_reducible exact tallystickref04_Sub.mono _ _ _)
   | (with_reducible exact LeO.refl _)
   | (with_reducible exact LeO.none _)
   | (with_reducible refine LeO.ite ?_ ?_)
   | (with_reducible refine LeO.bind ?_ (fun _ => ?_))
   | exact tallystickref04_Add.mono _ _ _
   | exact tallystickref04_Cmp.mono _ _ _
   | exact tallystickref04_Sub.mono _ _ _
   | exact LeO.none _
   | refine LeO.ite ?_ ?_
   | refine LeO.bind ?_ (fun _ => ?_)
set_option maxHeartbeats 8000000 in
set_option maxRecDepth 100000 in
theorem tallystickref17_plus.calls (k : Nat) (A0 : Option Addr) (c0 : Nat) (l0 : List Int) (a1 : Bool) (A2 : Option Addr) (c2 : Nat) (l2 : List Int) (a3 : Bool) (r1 : List Int) (r2 : Bool) (w : World) (hr0 : Kd.C (Kd.int .i64) w A0 l0.length l0) (hc0 : l0.length ≤ c0) (hr2 : Kd.C (Kd.int .i64) w A2 l2.length l2) (hc2 : l2.length ≤ c2) (h : tallystickref17_plus.f k l0 a1 l2 a3 = some (r1, r2)) :
  Calls Try.prog 61 #[.slice A0 l0.length c0, .bool a1, .slice A2 l2.length c2, .bool a3] w fun e w' => ∃ v0_ : Value, e = .returned (.tuple #[v0_, .bool r2]) ∧ Kd.R (Kd.int .i64) 3 w' w.heap.size (fun _ => True) v0_ r1 ∧ Below w.heap.size w w' := by
 have HR0 := A_ hr0; have HC0 := A_ hc0; clear hr0 hc0; have HR2 := A_ hr2; have HC2 := A_ hc2; clear hr2 hc2; have HB := A_ (Below.refl w.heap.size w)
 have H : (if (a1 == a3) = true then ((tallystickref04_Add.f k l0 l2).bind fun t418 => (some (t418, a1))) else ((tallystickref04_Cmp.f k l0 l2).bind fun t421 => (if t421 ≥ 0 then ((tallystickref04_Sub.f k l0 l2).bind fun t422 => (some (t422, a1))) else ((tallystickref04_Sub.f k l2 l0).bind fun t425 => (some (t425, a3)))))) = some (r1, r2) := h
 clear h
 by_cases c5 : (a1 == a3) = true
 ·rw [if_pos c5] at H
  have c5b0 : (a1 == a3) = true := c5
  (try (have c5b1 : decide (a1 = a3) = true := by simpa using c5))
  (try (have c5b2 : (a1 == a3) = true := by simpa using c5))
  clear c5
  replace H := Option.bind_eq_some_iff.mp H
  obtain ⟨t418, A60, H⟩ := H
  replace H : (some (t418, a1)) = some (r1, r2) := H
  have A6 := A_ A60; clear A60
  simp only [Option.some.injEq, Prod.mk.injEq] at H
  obtain ⟨rfl, rfl⟩ := H
  go_enter Try.func61, Try.ntmps61
  go_wp2_with (first | ((with_reducible refine gate_callee (f := 81) rfl ?_); refine goesL_ (some 15) rfl rfl Try.func81 (by kernel_rfl) rfl #[.slice A0 l0.length c0, .slice A2 l2.length c2] rfl (by (try simp only [List.map_toArray, List.map_cons, List.map_nil]); first | done | rfl | (simp only [List.length_drop, List.length_take]; rfl)) ?_; (with_reducible refine (tallystickref04_Add.calls k _ _ l0 _ _ l2 t418 _ ?side1 ?side2 ?side3 ?side4 A6.out).mono ?_); (case side1 => repeat (first | exact HR0.out | (with_reducible refine Kd.C_alloc ?_ _) | (with_reducible refine Kd.C_drewN ?_ _) | (with_reducible refine Kd.C_drew ?_))); (case side2 => exact HC0.out); (case side3 => repeat (first | exact HR2.out | (with_reducible refine Kd.C_alloc ?_ _) | (with_reducible refine Kd.C_drewN ?_ _) | (with_reducible refine Kd.C_drew ?_))); (case side4 => exact HC2.out); rintro e w7 ⟨v419, rfl, ho0, hb⟩; refine ⟨_, rfl, ?_⟩; have HO420 := A_ (Kd.R_lower ho0 (below_size (hB_ w))); replace HB := A_ (below_step (hB_ w) hb); (try clear hb); (try clear hb2); (try clear hk); (try clear hi); (try clear ho0)))
  go_ret2
  exact ⟨_, by first | rfl | (simp [errW_none, errW_some] <;> rfl) | (simp [*, errW_none, errW_some] <;> rfl), by (with_reducible repeat (first|apply rA_|apply rN_|apply rD_)); exact HO420.out, hB_ w⟩
 rw [if_neg c5] at H
 have c5b0 : (a1 == a3) = false := by simpa using c5
 (try (have c5b1 : decide (a1 = a3) = false := by simpa using c5))
 (try (have c5b2 : (a1 == a3) = false := by simpa using c5))
 (try (have c5b3 : ¬ (a1 = a3) := by simpa using c5))
 clear c5
 replace H := Option.bind_eq_some_iff.mp H
 obtain ⟨t421, A80, H⟩ := H
 replace H : (if t421 ≥ 0 then ((tallystickref04_Sub.f k l0 l2).bind fun t422 => (some (t422, a1))) else ((tallystickref04_Sub.f k l2 l0).bind fun t425 => (some (t425, a3)))) = some (r1, r2) := H
 have A8 := A_ A80; clear A80
 by_cases c9 : t421 ≥ 0
 ·rw [if_pos c9] at H
  have c9b0 : decide (0 ≤ t421) = true := decide_eq_true c9
  clear c9
  replace H := Option.bind_eq_some_iff.mp H
  obtain ⟨t422, A100, H⟩ := H
  replace H : (some (t422, a1)) = some (r1, r2) := H
  have A10 := A_ A100; clear A100
  simp only [Option.some.injEq, Prod.mk.injEq] at H
  obtain ⟨rfl, rfl⟩ := H
  go_enter Try.func61, Try.ntmps61
  go_wp2_with (first | ((with_reducible refine gate_callee (f := 82) rfl ?_); refine goesL_ (some 19) rfl rfl Try.func82 (by kernel_rfl) rfl #[.slice A0 l0.length c0, .slice A2 l2.length c2] rfl (by (try simp only [List.map_toArray, List.map_cons, List.map_nil]); first | done | rfl | (simp only [List.length_drop, List.length_take]; rfl)) ?_; (with_reducible refine (tallystickref04_Cmp.calls k _ _ l0 _ _ l2 t421 _ ?side1 ?side2 ?side3 ?side4 A8.out).mono ?_); (case side1 => repeat (first | exact HR0.out | (with_reducible refine Kd.C_alloc ?_ _) | (with_reducible refine Kd.C_drewN ?_ _) | (with_reducible refine Kd.C_drew ?_))); (case side2 => exact HC0.out); (case side3 => repeat (first | exact HR2.out | (with_reducible refine Kd.C_alloc ?_ _) | (with_reducible refine Kd.C_drewN ?_ _) | (with_reducible refine Kd.C_drew ?_))); (case side4 => exact HC2.out); rintro e w' ⟨rfl, ⟨nd, rfl⟩⟩; refine ⟨_, rfl, ?_⟩) | ((with_reducible refine gate_callee (f := 83) rfl ?_); refine goesL_ (some 23) rfl rfl Try.func83 (by kernel_rfl) rfl #[.slice A0 l0.length c0, .slice A2 l2.length c2] rfl (by (try simp only [List.map_toArray, List.map_cons, List.map_nil]); first | done | rfl | (simp only [List.length_drop, List.length_take]; rfl)) ?_; (with_reducible refine (tallystickref04_Sub.calls k _ _ l0 _ _ l2 t422 _ ?side1 ?side2 ?side3 ?side4 A10.out).mono ?_); (case side1 => repeat (first | exact HR0.out | (with_reducible refine Kd.C_alloc ?_ _) | (with_reducible refine Kd.C_drewN ?_ _) | (with_reducible refine Kd.C_drew ?_))); (case side2 => exact HC0.out); (case side3 => repeat (first | exact HR2.out | (with_reducible refine Kd.C_alloc ?_ _) | (with_reducible refine Kd.C_drewN ?_ _) | (with_reducible refine Kd.C_drew ?_))); (case side4 => exact HC2.out); rintro e w11 ⟨v423, rfl, ho0, hb⟩; refine ⟨_, rfl, ?_⟩; have HO424 := A_ (Kd.R_lower ho0 (below_size (hB_ w))); replace HB := A_ (below_step (hB_ w) hb); (try clear hb); (try clear hb2); (try clear hk); (try clear hi); (try clear ho0)))
  go_ret2
  exact ⟨_, by first | rfl | (simp [errW_none, errW_some] <;> rfl) | (simp [*, errW_none, errW_some] <;> rfl), by (with_reducible repeat (first|apply rA_|apply rN_|apply rD_)); exact HO424.out, hB_ w⟩
 rw [if_neg c9] at H
 have c9b0 : decide (0 ≤ t421) = false := decide_eq_false c9
 clear c9
 replace H := Option.bind_eq_some_iff.mp H
 obtain ⟨t425, A120, H⟩ := H
 replace H : (some (t425, a3)) = some (r1, r2) := H
 have A12 := A_ A120; clear A120
 simp only [Option.some.injEq, Prod.mk.injEq] at H
 obtain ⟨rfl, rfl⟩ := H
 go_enter Try.func61, Try.ntmps61
 go_wp2_with (first | ((with_reducible refine gate_callee (f := 82) rfl ?_); refine goesL_ (some 19) rfl rfl Try.func82 (by kernel_rfl) rfl #[.slice A0 l0.length c0, .slice A2 l2.length c2] rfl (by (try simp only [List.map_toArray, List.map_cons, List.map_nil]); first | done | rfl | (simp only [List.length_drop, List.length_take]; rfl)) ?_; (with_reducible refine (tallystickref04_Cmp.calls k _ _ l0 _ _ l2 t421 _ ?side1 ?side2 ?side3 ?side4 A8.out).mono ?_); (case side1 => repeat (first | exact HR0.out | (with_reducible refine Kd.C_alloc ?_ _) | (with_reducible refine Kd.C_drewN ?_ _) | (with_reducible refine Kd.C_drew ?_))); (case side2 => exact HC0.out); (case side3 => repeat (first | exact HR2.out | (with_reducible refine Kd.C_alloc ?_ _) | (with_reducible refine Kd.C_drewN ?_ _) | (with_reducible refine Kd.C_drew ?_))); (case side4 => exact HC2.out); rintro e w' ⟨rfl, ⟨nd, rfl⟩⟩; refine ⟨_, rfl, ?_⟩) | ((with_reducible refine gate_callee (f := 83) rfl ?_); refine goesL_ (some 27) rfl rfl Try.func83 (by kernel_rfl) rfl #[.slice A2 l2.length c2, .slice A0 l0.length c0] rfl (by (try simp only [List.map_toArray, List.map_cons, List.map_nil]); first | done | rfl | (simp only [List.length_drop, List.length_take]; rfl)) ?_; (with_reducible refine (tallystickref04_Sub.calls k _ _ l2 _ _ l0 t425 _ ?side1 ?side2 ?side3 ?side4 A12.out).mono ?_); (case side1 => repeat (first | exact HR2.out | (with_reducible refine Kd.C_alloc ?_ _) | (with_reducible refine Kd.C_drewN ?_ _) | (with_reducible refine Kd.C_drew ?_))); (case side2 => exact HC2.out); (case side3 => repeat (first | exact HR0.out | (with_reducible refine Kd.C_alloc ?_ _) | (with_reducible refine Kd.C_drewN ?_ _) | (with_reducible refine Kd.C_drew ?_))); (case side4 => exact HC0.out); rintro e w13 ⟨v426, rfl, ho0, hb⟩; refine ⟨_, rfl, ?_⟩; have HO427 := A_ (Kd.R_lower ho0 (below_size (hB_ w))); replace HB := A_ (below_step (hB_ w) hb); (try clear hb); (try clear hb2); (try clear hk); (try clear hi); (try clear ho0)))
 go_ret2
 exact ⟨_, by first | rfl | (simp [errW_none, errW_some] <;> rfl) | (simp [*, errW_none, errW_some] <;> rfl), by (with_reducible repeat (first|apply rA_|apply rN_|apply rD_)); exact HO427.out, hB_ w⟩

end Go.Proofs.Ytbpobnlkfpjijaa.Pr
end
