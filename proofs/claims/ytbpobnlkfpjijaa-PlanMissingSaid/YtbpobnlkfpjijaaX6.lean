-- Laid by a program (wip/merge.py): texts of this claim, one behind the other.
import Derived.Test.YtbpobnlkfpjijaaX5
-- Pr59
section
namespace Go.Proofs.Ytbpobnlkfpjijaa.Pr
open Go.RowKit Go.Proofs.YtbpobnlkfpjijaaW.PrintWords Go.Proofs.YtbpobnlkfpjijaaW.PrintLast Go.Proofs.YtbpobnlkfpjijaaW.PrintMore
attribute [local go_sem] max2_int min2_int max_two min_two max_three min_three max_four min_four   -- for this text's walks alone
set_option linter.unusedVariables false
set_option linter.unusedSimpArgs false

attribute [local go_sem] Go.Proofs.Aid.cell_set_row
attribute [local go_sem high] eqA29
theorem tallysticklaw19_PlanMissing.held0_ {W : World} {g0 g1 : Nat} {x0_0 x0_1 x0_2 x1_0 x1_1 x1_2 x1_3 x1_4 x1_5 : Value} {t0 t1 : TypeId} (h0 : AsC (W.heap[g0]? = some (.cells #[x0_0, x0_1, x0_2] t0 (0, 0)))) (h1 : AsC (W.heap[g1]? = some (.cells #[x1_0, x1_1, x1_2, x1_3, x1_4, x1_5] t1 (0, 0)))) : W.cell? ⟨g0, 0, none⟩ = some x0_0 ∧ W.cell? ⟨g0, 1, none⟩ = some x0_1 ∧ W.cell? ⟨g0, 2, none⟩ = some x0_2 ∧ W.cell? ⟨g1, 0, none⟩ = some x1_0 ∧ W.cell? ⟨g1, 1, none⟩ = some x1_1 ∧ W.cell? ⟨g1, 2, none⟩ = some x1_2 ∧ W.cell? ⟨g1, 3, none⟩ = some x1_3 ∧ W.cell? ⟨g1, 4, none⟩ = some x1_4 ∧ W.cell? ⟨g1, 5, none⟩ = some x1_5 := ⟨(blk_cell h0.out 0).trans rfl, (blk_cell h0.out 1).trans rfl, (blk_cell h0.out 2).trans rfl, (blk_cell h1.out 0).trans rfl, (blk_cell h1.out 1).trans rfl, (blk_cell h1.out 2).trans rfl, (blk_cell h1.out 3).trans rfl, (blk_cell h1.out 4).trans rfl, (blk_cell h1.out 5).trans rfl⟩
mutual
def tallysticklaw19_PlanMissing.l0 : Nat → List (S41) → Bool → List (S29) → Int → Int → Int → Int → Int → Int → Int → Option (Bool)
 | 0, _, _, _, _, _, _, _, _, _, _ => none
 | k + 1, x1, x5, x9, x10, x11, x505000, x505001, x505002, x511000, x511001 => if x11 < (x9.length : Int) then (if 0 ≤ x11 then (if (((rd_T29 x9 x11).f0) == x511000 && (((rd_T29 x9 x11).f1) == x511001)) = true then (tallysticklaw19_PlanMissing.l0 k x1 x5 x9 x11 (wrap64 (x11 + 1)) x505000 x505001 x505002 x511000 x511001) else (tallysticklaw19_PlanMissing.l0 k x1 x5 x9 x10 (wrap64 (x11 + 1)) x505000 x505001 x505002 x511000 x511001)) else (none)) else ((tallystickref17_Sum.f k x505000 x511000 x511001).bind fun bt516 => (if x10 < 0 then (tallysticklaw19_PlanMissing.j1 k x1 x5 x9 x10 true x505000 x505001 x505002 bt516.1 bt516.2.1 bt516.2.2.1 bt516.2.2.2.1 bt516.2.2.2.2.1 bt516.2.2.2.2.2.1) else (tallysticklaw19_PlanMissing.j1 k x1 x5 x9 x10 (bt516.2.2.2.2.2.2 != 0) x505000 x505001 x505002 bt516.1 bt516.2.1 bt516.2.2.1 bt516.2.2.2.1 bt516.2.2.2.2.1 bt516.2.2.2.2.2.1)))
def tallysticklaw19_PlanMissing.j1 : Nat → List (S41) → Bool → List (S29) → Int → Bool → Int → Int → Int → Int → Int → List Int → List Int → List Int → Bool → Option (Bool)
 | 0, _, _, _, _, _, _, _, _, _, _, _, _, _, _ => none
 | k + 1, x1, x5, x9, x10, x65, x505000, x505001, x505002, x530000, x530001, x530002, x530003, x530004, x530005 => if x65 = true then (some false) else ((some (([] : List (S41)) : List (S41))).bind fun y530 => (if y530.length + x1.length < 1466015503701 then ((some (y530 ++ x1 : List (S41))).bind fun y533 => ((some (([(⟨(⟨x530000, x530001⟩ : S29), x530002, x530003, x530004, x530005⟩ : S41)] : List (S41)) : List (S41))).bind fun y536 => (if y533.length + y536.length < 1466015503701 then ((plan_Missing.f x505000 x505001 x505002 (y533 ++ y536)).bind fun bt542 => (if bt542.2.2 = true then (tallysticklaw19_PlanMissing.l1 k x5 x9 x10 (-1) 0 bt542.1 bt542.2.1) else (some x5))) else (none)))) else (none)))
def tallysticklaw19_PlanMissing.l1 : Nat → Bool → List (S29) → Int → Int → Int → Int → Int → Option (Bool)
 | 0, _, _, _, _, _, _, _ => none
 | k + 1, x5, x9, x10, x16, x17, x546000, x546001 => if x17 < (x9.length : Int) then (if 0 ≤ x17 then (if (((rd_T29 x9 x17).f0) == x546000 && (((rd_T29 x9 x17).f1) == x546001)) = true then (tallysticklaw19_PlanMissing.l1 k x5 x9 x10 x17 (wrap64 (x17 + 1)) x546000 x546001) else (tallysticklaw19_PlanMissing.l1 k x5 x9 x10 x16 (wrap64 (x17 + 1)) x546000 x546001)) else (none)) else (if x5 = true then (some (decide (x16 > x10))) else (some false))
end
def tallysticklaw19_PlanMissing.f (k : Nat) (a0_0 : Int) (a0_1 : Int) (a0_2 : Int) (l1 : List (S41)) : Option (Bool) := (tallysticklaw19_shown.f k).bind fun t505 => ((tallystickref19_Small.f k a0_0 a0_1 a0_2 l1).bind fun t506 => (if t506 = true then ((plan_Missing.f a0_0 a0_1 a0_2 l1).bind fun bt507 => (if bt507.2.2 = true then ((tallystickref19_Find.f k l1 bt507.1 bt507.2.1).bind fun t511 => (if t511 ≥ 0 then (some false) else ((plan_Pieces.f k a0_0 a0_1 a0_2).bind fun t512 => (tallysticklaw19_PlanMissing.l0 k l1 t505 t512 (-1) 0 a0_0 a0_1 a0_2 bt507.1 bt507.2.1)))) else (some t505))) else (some t505)))
theorem tallysticklaw19_PlanMissing.mono_l : ∀ k, (∀ y0 y1 y2 y3 y4 y5 y6 y7 y8 y9, LeO (tallysticklaw19_PlanMissing.l0 k y0 y1 y2 y3 y4 y5 y6 y7 y8 y9) (tallysticklaw19_PlanMissing.l0 (k + 1) y0 y1 y2 y3 y4 y5 y6 y7 y8 y9)) ∧ (∀ y0 y1 y2 y3 y4 y5 y6 y7 y8 y9 y10 y11 y12 y13, LeO (tallysticklaw19_PlanMissing.j1 k y0 y1 y2 y3 y4 y5 y6 y7 y8 y9 y10 y11 y12 y13) (tallysticklaw19_PlanMissing.j1 (k + 1) y0 y1 y2 y3 y4 y5 y6 y7 y8 y9 y10 y11 y12 y13)) ∧ (∀ y0 y1 y2 y3 y4 y5 y6, LeO (tallysticklaw19_PlanMissing.l1 k y0 y1 y2 y3 y4 y5 y6) (tallysticklaw19_PlanMissing.l1 (k + 1) y0 y1 y2 y3 y4 y5 y6))
 | 0 => ⟨fun _ _ _ _ _ _ _ _ _ _ r h => by simp [tallysticklaw19_PlanMissing.l0] at h, fun _ _ _ _ _ _ _ _ _ _ _ _ _ _ r h => by simp [tallysticklaw19_PlanMissing.j1] at h, fun _ _ _ _ _ _ _ r h => by simp [tallysticklaw19_PlanMissing.l1] at h⟩
 | k + 1 => by
  obtain ⟨ih0, ih1, ih2⟩ := tallysticklaw19_PlanMissing.mono_l k
  refine ⟨?_, ?_, ?_⟩
  ·intro y0 y1 y2 y3 y4 y5 y6 y7 y8 y9
   unfold tallysticklaw19_PlanMissing.l0
   repeat' first
   | (with_reducible exact ih0 _ _ _ _ _ _ _ _ _ _)
   | (with_reducible exact ih1 _ _ _ _ _ _ _ _ _ _ _ _ _ _)
   | (with_reducible exact ih2 _ _ _ _ _ _ _)
   | (with_reducible exact plan_Pieces.mono _ _ _ _)
   | (with_reducible exact tallysticklaw19_shown.mono _)
   | (with_reducible exact tallystickref17_Sum.mono _ _ _ _)
   | (with_reducible exact tallystickref19_Find.mono _ _ _ _)
   | (with_reducible exact tallystickref19_Small.mono _ _ _ _ _)
   | (with_reducible exact LeO.refl _)
   | (with_reducible exact LeO.none _)
   | (with_reducible refine LeO.ite ?_ ?_)
   | (with_reducible refine LeO.bind ?_ (fun _ => ?_))
   | exact ih0 _ _ _ _ _ _ _ _ _ _
   | exact ih1 _ _ _ _ _ _ _ _ _ _ _ _ _ _
   | exact ih2 _ _ _ _ _ _ _
   | exact plan_Pieces.mono _ _ _ _
   | exact tallysticklaw19_shown.mono _
   | exact tallystickref17_Sum.mono _ _ _ _
   | exact tallystickref19_Find.mono _ _ _ _
   | exact tallystickref19_Small.mono _ _ _ _ _
   | exact LeO.none _
   | refine LeO.ite ?_ ?_
   | refine LeO.bind ?_ (fun _ => ?_)
  ·intro y0 y1 y2 y3 y4 y5 y6 y7 y8 y9 y10 y11 y12 y13
   unfold tallysticklaw19_PlanMissing.j1
   repeat' first
   | (with_reducible exact ih0 _ _ _ _ _ _ _ _ _ _)
   | (with_reducible exact ih1 _ _ _ _ _ _ _ _ _ _ _ _ _ _)
   | (with_reducible exact ih2 _ _ _ _ _ _ _)
   | (with_reducible exact plan_Pieces.mono _ _ _ _)
   | (with_reducible exact tallysticklaw19_shown.mono _)
   | (with_reducible exact tallystickref17_Sum.mono _ _ _ _)
   | (with_reducible exact tallystickref19_Find.mono _ _ _ _)
   | (with_reducible exact tallystickref19_Small.mono _ _ _ _ _)
   | (with_reducible exact LeO.refl _)
   | (with_reducible exact LeO.none _)
   | (with_reducible refine LeO.ite ?_ ?_)
   | (with_reducible refine LeO.bind ?_ (fun _ => ?_))
   | exact ih0 _ _ _ _ _ _ _ _ _ _
   | exact ih1 _ _ _ _ _ _ _ _ _ _ _ _ _ _
   | exact ih2 _ _ _ _ _ _ _
   | exact plan_Pieces.mono _ _ _ _
   | exact tallysticklaw19_shown.mono _
   | exact tallystickref17_Sum.mono _ _ _ _
   | exact tallystickref19_Find.mono _ _ _ _
   | exact tallystickref19_Small.mono _ _ _ _ _
   | exact LeO.none _
   | refine LeO.ite ?_ ?_
   | refine LeO.bind ?_ (fun _ => ?_)
  intro y0 y1 y2 y3 y4 y5 y6
  unfold tallysticklaw19_PlanMissing.l1
  repeat' first
  | (with_reducible exact ih0 _ _ _ _ _ _ _ _ _ _)
  | (with_reducible exact ih1 _ _ _ _ _ _ _ _ _ _ _ _ _ _)
  | (with_reducible exact ih2 _ _ _ _ _ _ _)
  | (with_reducible exact plan_Pieces.mono _ _ _ _)
  | (with_reducible exact tallysticklaw19_shown.mono _)
  | (with_reducible exact tallystickref17_Sum.mono _ _ _ _)
  | (with_reducible exact tallystickref19_Find.mono _ _ _ _)
  | (with_reducible exact tallystickref19_Small.mono _ _ _ _ _)
  | (with_reducible exact LeO.refl _)
  | (with_reducible exact LeO.none _)
  | (with_reducible refine LeO.ite ?_ ?_)
  | (with_reducible refine LeO.bind ?_ (fun _ => ?_))
  | exact ih0 _ _ _ _ _ _ _ _ _ _
  | exact ih1 _ _ _ _ _ _ _ _ _ _ _ _ _ _
  | exact ih2 _ _ _ _ _ _ _
  | exact plan_Pieces.mono _ _ _ _
  | exact tallysticklaw19_shown.mono _
  | exact tallystickref17_Sum.mono _ _ _ _
  | exact tallystickref19_Find.mono _ _ _ _
  | exact tallystickref19_Small.mono _ _ _ _ _
  | exact LeO.none _
  | refine LeO.ite ?_ ?_
  | refine LeO.bind ?_ (fun _ => ?_)
theorem tallysticklaw19_PlanMissing.mono : ∀ a0 a1 a2 a3 k, LeO (tallysticklaw19_PlanMissing.f k a0 a1 a2 a3) (tallysticklaw19_PlanMissing.f (k + 1) a0 a1 a2 a3) := by
 intro a0 a1 a2 a3 k
 obtain ⟨ih0, ih1, ih2⟩ := tallysticklaw19_PlanMissing.mono_l k
 unfold tallysticklaw19_PlanMissing.f
 repeat' first
   | (with_reducible exact ih0 _ _ _ _ _ _ _ _ _ _)
   | (with_reducible exact ih1 _ _ _ _ _ _ _ _ _ _ _ _ _ _)
   | (with_reducible exact ih2 _ _ _ _ _ _ _)
   | (with_reducible exact plan_Pieces.mono _ _ _ _)
   | (with_reducible exact tallysticklaw19_shown.mono _)
   | (with_reducible exact tallystickref17_Sum.mono _ _ _ _)
   | (with_reducible exact tallystickref19_Find.mono _ _ _ _)
   | (with_reducible exact tallystickref19_Small.mono _ _ _ _ _)
   | (with_reducible exact LeO.refl _)
   | (with_reducible exact LeO.none _)
   | (with_reducible refine LeO.ite ?_ ?_)
   | (with_reducible refine LeO.bind ?_ (fun _ => ?_))
   | exact ih0 _ _ _ _ _ _ _ _ _ _
   | exact ih1 _ _ _ _ _ _ _ _ _ _ _ _ _ _
   | exact ih2 _ _ _ _ _ _ _
   | exact plan_Pieces.mono _ _ _ _
   | exact tallysticklaw19_shown.mono _
   | exact tallystickref17_Sum.mono _ _ _ _
   | exact tallystickref19_Find.mono _ _ _ _
   | exact tallystickref19_Small.mono _ _ _ _ _
   | exact LeO.none _
   | refine LeO.ite ?_ ?_
   | refine LeO.bind ?_ (fun _ => ?_)
def tallysticklaw19_PlanMissing.T20 : Bool × List (List Nat × List Nat) := (true, [([], []), ([], []), ([], []), ([1, 2], [1, 2]), ([], []), ([4], [4]), ([3, 5, 3], [3, 5]), ([0, 6, 6], [0, 6]), ([7], [7]), ([8], [8]), ([8], [8]), ([], []), ([11, 9, 7, 0, 1, 2, 3, 4, 5, 6, 7, 8, 9, 11], [9, 11]), ([10, 12, 0, 1, 2, 3, 4, 5, 6, 7, 8, 9, 10, 11, 12], [10])])
def tallysticklaw19_PlanMissing.B20 : List Nat := [0, 0, 0, 6, 0, 16, 62, 127, 255, 511, 511, 0, 3071, 8191]
theorem tallysticklaw19_PlanMissing.tab20 : rtab .any (opsOf Try.f5 20) = tallysticklaw19_PlanMissing.T20 := by kernel_rfl
theorem tallysticklaw19_PlanMissing.bits20 : waitsOk tallysticklaw19_PlanMissing.T20.2 tallysticklaw19_PlanMissing.B20 = true := by kernel_rfl
set_option maxHeartbeats 8000000 in
set_option maxRecDepth 100000 in
theorem tallysticklaw19_PlanMissing.calls (k : Nat) (a0_0 : Int) (a0_1 : Int) (a0_2 : Int) (P1_ : Nat → Prop) (A1 : Option Addr) (c1 : Nat) (l1 : List (S41)) (r : Bool) (w : World) (hs1 : Kd.V k41 41 w w.heap.size (fun k_ => P1_ k_) (.slice A1 l1.length c1) l1) (h : tallysticklaw19_PlanMissing.f k a0_0 a0_1 a0_2 l1 = some r) :
  Calls Try.prog 5 #[.agg #[.int .i64 a0_0, .int .i64 a0_1, .int .i64 a0_2], .slice A1 l1.length c1] w fun e w' => e = .returned (.bool r) ∧ Below w.heap.size w w' := by
 have hu23 := Try.underlying23
 have hu29 := Try.underlying29
 have hu41 := Try.underlying41
 have HO1 := A_ (show Kd.V k41 41 w w.heap.size (fun k_ => (P1_ k_ ∨ w.heap.size ≤ k_)) (.slice A1 l1.length c1) l1 from Kd.V_mono hs1 (fun k_ hk => .inl hk)); have HB := A_ (Below.refl w.heap.size w)
 have H : ((tallysticklaw19_shown.f k).bind fun t505 => ((tallystickref19_Small.f k a0_0 a0_1 a0_2 l1).bind fun t506 => (if t506 = true then ((plan_Missing.f a0_0 a0_1 a0_2 l1).bind fun bt507 => (if bt507.2.2 = true then ((tallystickref19_Find.f k l1 bt507.1 bt507.2.1).bind fun t511 => (if t511 ≥ 0 then (some false) else ((plan_Pieces.f k a0_0 a0_1 a0_2).bind fun t512 => (tallysticklaw19_PlanMissing.l0 k l1 t505 t512 (-1) 0 a0_0 a0_1 a0_2 bt507.1 bt507.2.1)))) else (some t505))) else (some t505)))) = some r := h
 clear h
 replace H := Option.bind_eq_some_iff.mp H
 obtain ⟨t505, A30, H⟩ := H
 replace H : ((tallystickref19_Small.f k a0_0 a0_1 a0_2 l1).bind fun t506 => (if t506 = true then ((plan_Missing.f a0_0 a0_1 a0_2 l1).bind fun bt507 => (if bt507.2.2 = true then ((tallystickref19_Find.f k l1 bt507.1 bt507.2.1).bind fun t511 => (if t511 ≥ 0 then (some false) else ((plan_Pieces.f k a0_0 a0_1 a0_2).bind fun t512 => (tallysticklaw19_PlanMissing.l0 k l1 t505 t512 (-1) 0 a0_0 a0_1 a0_2 bt507.1 bt507.2.1)))) else (some t505))) else (some t505))) = some r := H
 have A3 := A_ A30; clear A30
 replace H := Option.bind_eq_some_iff.mp H
 obtain ⟨t506, A40, H⟩ := H
 replace H : (if t506 = true then ((plan_Missing.f a0_0 a0_1 a0_2 l1).bind fun bt507 => (if bt507.2.2 = true then ((tallystickref19_Find.f k l1 bt507.1 bt507.2.1).bind fun t511 => (if t511 ≥ 0 then (some false) else ((plan_Pieces.f k a0_0 a0_1 a0_2).bind fun t512 => (tallysticklaw19_PlanMissing.l0 k l1 t505 t512 (-1) 0 a0_0 a0_1 a0_2 bt507.1 bt507.2.1)))) else (some t505))) else (some t505)) = some r := H
 have A4 := A_ A40; clear A40
 by_cases c5 : t506 = true
 ·subst c5
  have H1 : ((plan_Missing.f a0_0 a0_1 a0_2 l1).bind fun bt507 => (if bt507.2.2 = true then ((tallystickref19_Find.f k l1 bt507.1 bt507.2.1).bind fun t511 => (if t511 ≥ 0 then (some false) else ((plan_Pieces.f k a0_0 a0_1 a0_2).bind fun t512 => (tallysticklaw19_PlanMissing.l0 k l1 t505 t512 (-1) 0 a0_0 a0_1 a0_2 bt507.1 bt507.2.1)))) else (some t505))) = some r := by rw [if_pos rfl] at H; exact H
  clear H
  have H := H1
  clear H1
  replace H := Option.bind_eq_some_iff.mp H
  obtain ⟨⟨t507, t508, t509⟩, A60, H⟩ := H
  replace H : (if t509 = true then ((tallystickref19_Find.f k l1 t507 t508).bind fun t511 => (if t511 ≥ 0 then (some false) else ((plan_Pieces.f k a0_0 a0_1 a0_2).bind fun t512 => (tallysticklaw19_PlanMissing.l0 k l1 t505 t512 (-1) 0 a0_0 a0_1 a0_2 t507 t508)))) else (some t505)) = some r := H
  have A6 := A_ A60; clear A60
  by_cases c7 : t509 = true
  ·subst c7
   have H1 : ((tallystickref19_Find.f k l1 t507 t508).bind fun t511 => (if t511 ≥ 0 then (some false) else ((plan_Pieces.f k a0_0 a0_1 a0_2).bind fun t512 => (tallysticklaw19_PlanMissing.l0 k l1 t505 t512 (-1) 0 a0_0 a0_1 a0_2 t507 t508)))) = some r := by rw [if_pos rfl] at H; exact H
   clear H
   have H := H1
   clear H1
   replace H := Option.bind_eq_some_iff.mp H
   obtain ⟨t511, A80, H⟩ := H
   replace H : (if t511 ≥ 0 then (some false) else ((plan_Pieces.f k a0_0 a0_1 a0_2).bind fun t512 => (tallysticklaw19_PlanMissing.l0 k l1 t505 t512 (-1) 0 a0_0 a0_1 a0_2 t507 t508))) = some r := H
   have A8 := A_ A80; clear A80
   by_cases c9 : t511 ≥ 0
   ·rw [if_pos c9] at H
    have c9b0 : decide (0 ≤ t511) = true := decide_eq_true c9
    clear c9
    obtain rfl := Option.some.inj H
    go_enter Try.func5, Try.ntmps5
    go_wp2_with (first | ((with_reducible refine gate_dst (N := 2) rfl ?_); refine box_event ?hg (N := 2) ?hd (cs := #[.int .i64 a0_0, .int .i64 a0_1, .int .i64 a0_2]) (t := 23) ?hr ?_; (case hd => rfl); (case hg => rfl); (case hr => first | (go_simp; done) | (go_simp; rfl)); intro gb504 hg w10 hbox hb; replace HO1 := A_ (Kd.V_below (Kd.V_elderB (v_ HO1) gb504 (Nat.le_of_eq hg.symm)) hb); have BK504 := A_ hbox; have GW504 := A_ ((by rw [hg]; exact (below_size (hB_ w)) : w.heap.size ≤ gb504)); have GE504 := A_ ((by rw [hg]; exact (below_size (hB_ w)) : w.heap.size ≤ gb504)); replace HB := A_ (below_step (hB_ w) hb); clear hb hbox hg) | ((with_reducible refine gate_callee (f := 12) rfl ?_); refine goesL_ (some 18) rfl rfl Try.func12 (by kernel_rfl) rfl #[] rfl (by (try simp only [List.map_toArray, List.map_cons, List.map_nil]); first | done | rfl | (simp only [List.length_drop, List.length_take]; rfl)) ?_; (with_reducible refine (tallysticklaw19_shown.calls k  t505 _ A3.out).mono ?_); rintro e w11 ⟨rfl, hb⟩; refine ⟨_, rfl, ?_⟩; replace HO1 := A_ (Kd.V_below (v_ HO1) hb); replace BK504 := A_ (blk_below (g := gb504) (b_ BK504) hb); replace HB := A_ (below_step (hB_ w) hb); (try clear hb); (try clear hb2); (try clear hk); (try clear hi); obtain ⟨hcz12_0, hcz12_1, hcz12_2, hfz12_0, hfz12_1, hfz12_2⟩ := cf3_ BK504) | ((with_reducible refine gate_callee (f := 13) rfl ?_); refine goesL_ (some 21) rfl rfl Try.func13 (by kernel_rfl) rfl #[.agg #[.int .i64 a0_0, .int .i64 a0_1, .int .i64 a0_2], .slice A1 l1.length c1] rfl (by (try simp only [List.map_toArray, List.map_cons, List.map_nil]); first | done | rfl | (simp only [List.length_drop, List.length_take]; rfl)) ?_; (with_reducible refine (tallystickref19_Small.calls k a0_0 a0_1 a0_2 _ _ l1 true _ ?side1 ?side2 A4.out).mono ?_); (case side1 => repeat (first | exact (Kd.V_reads' HO1.out).2.2 | (with_reducible refine Kd.C_alloc ?_ _) | (with_reducible refine Kd.C_drewN ?_ _) | (with_reducible refine Kd.C_drew ?_))); (case side2 => exact (Kd.V_reads' HO1.out).2.1); rintro e w13 ⟨rfl, hb⟩; refine ⟨_, rfl, ?_⟩; replace HO1 := A_ (Kd.V_below (v_ HO1) hb); replace BK504 := A_ (blk_below (g := gb504) (b_ BK504) hb); replace HB := A_ (below_step (hB_ w) hb); (try clear hb); (try clear hb2); (try clear hk); (try clear hi); obtain ⟨hcz14_0, hcz14_1, hcz14_2, hfz14_0, hfz14_1, hfz14_2⟩ := cf3_ BK504) | ((with_reducible refine gate_callee (f := 17) rfl ?_); refine goesL_ (some 28) rfl rfl Try.func17 (by kernel_rfl) rfl #[.agg #[.int .i64 a0_0, .int .i64 a0_1, .int .i64 a0_2], .slice A1 l1.length c1] rfl (by (try simp only [List.map_toArray, List.map_cons, List.map_nil]); first | done | rfl | (simp only [List.length_drop, List.length_take]; rfl)) ?_; (with_reducible refine (plan_Missing.calls a0_0 a0_1 a0_2 _ _ l1 t507 t508 true _ ?side1 ?side2 A6.out).mono ?_); (case side1 => repeat (first | exact (Kd.V_reads' HO1.out).2.2 | (with_reducible refine Kd.C_alloc ?_ _) | (with_reducible refine Kd.C_drewN ?_ _) | (with_reducible refine Kd.C_drew ?_))); (case side2 => exact (Kd.V_reads' HO1.out).2.1); rintro e w15 ⟨rfl, hb⟩; refine ⟨_, rfl, ?_⟩; replace HO1 := A_ (Kd.V_below (v_ HO1) hb); replace BK504 := A_ (blk_below (g := gb504) (b_ BK504) hb); replace HB := A_ (below_step (hB_ w) hb); (try clear hb); (try clear hb2); (try clear hk); (try clear hi)) | ((with_reducible refine gate_dst (N := 7) rfl ?_); refine box_event ?hg (N := 7) ?hd (cs := #[.int .i64 0, .int .i64 0]) (t := 29) ?hr ?_; (case hd => rfl); (case hg => rfl); (case hr => first | (go_simp; done) | (go_simp; rfl)); intro gb510 hg w16 hbox hb; replace HO1 := A_ (Kd.V_below (Kd.V_elderB (v_ HO1) gb510 (Nat.le_of_eq hg.symm)) hb); have BK510 := A_ hbox; have GW510 := A_ ((by rw [hg]; exact (below_size (hB_ w)) : w.heap.size ≤ gb510)); have GE510 := A_ ((by rw [hg]; exact (below_size (hB_ w)) : w.heap.size ≤ gb510)); replace HB := A_ (below_step (hB_ w) hb); have NB504_510 := A_ ((by rw [hg]; exact Nat.ne_of_lt (blk_lt (g := gb504) (b_ BK504)) : gb504 ≠ gb510)); have NB510_504 := A_ ((by rw [hg]; exact Nat.ne_of_gt (blk_lt (g := gb504) (b_ BK504)) : gb510 ≠ gb504)); replace BK504 := A_ (blk_below (g := gb504) (b_ BK504) hb); clear hb hbox hg; have hnb17 := NB510_504.out; have hnc17 := NB504_510.out; obtain ⟨hcz18_0, hcz18_1, hfz18_0, hfz18_1⟩ := cf2_ BK510) | ((with_reducible refine gate_callee (f := 18) rfl ?_); refine goesL_ (some 36) rfl rfl Try.func18 (by kernel_rfl) rfl #[.slice A1 l1.length c1, .agg #[.int .i64 t507, .int .i64 t508]] rfl (by (try simp only [List.map_toArray, List.map_cons, List.map_nil]); first | done | rfl | (simp only [List.length_drop, List.length_take]; rfl)) ?_; (with_reducible refine (tallystickref19_Find.calls k _ _ l1 t507 t508 t511 _ ?side1 ?side2 A8.out).mono ?_); (case side1 => refine (Kd.V_reads' (e := 41) (base := w.heap.size) (ok := fun k_ => (((P1_ k_ ∨ w.heap.size ≤ k_) ∧ k_ ≠ gb504) ∧ k_ ≠ gb510)) (n := l1.length) (c := c1) ?_).2.2; exact (by (with_reducible repeat (first|apply vA_|apply vN_|apply vD_)); exact (Kd.V_mono (Kd.V_far (p := ⟨gb510, 1, none⟩) (Kd.V_far (p := ⟨gb510, 0, none⟩) (Kd.V_mono HO1.out (fun k_ hk => (⟨hk, hk.2⟩ : _ ∧ k_ ≠ gb510))) (fun _ hk => hk.2) (.int .i64 t507)) (fun _ hk => hk.2) (.int .i64 t508)) (fun _ h_ => h_.1)))); (case side2 => exact (Kd.V_reads' HO1.out).2.1); rintro e w19 ⟨rfl, hb⟩; refine ⟨_, rfl, ?_⟩; replace HO1 := A_ (Kd.V_below (by (with_reducible repeat (first|apply vA_|apply vN_|apply vD_)); exact (Kd.V_mono (Kd.V_far (p := ⟨gb510, 1, none⟩) (Kd.V_far (p := ⟨gb510, 0, none⟩) (Kd.V_mono HO1.out (fun k_ hk => (⟨hk, hk.2⟩ : _ ∧ k_ ≠ gb510))) (fun _ hk => hk.2) (.int .i64 t507)) (fun _ hk => hk.2) (.int .i64 t508)) (fun _ h_ => h_.1))) hb); replace BK504 := A_ (blk_below (g := gb504) (o := .cells #[.int .i64 a0_0, .int .i64 a0_1, .int .i64 a0_2] 23 (0, 0)) (by (with_reducible repeat (first|apply bA_|apply bN_|apply bD_)); refine blk_far ?_ NB504_510.out _; (with_reducible repeat (first|apply bA_|apply bN_|apply bD_)); refine blk_far ?_ NB504_510.out _; (with_reducible repeat (first|apply bA_|apply bN_|apply bD_)); exact BK504.out) hb); replace BK510 := A_ (blk_below (g := gb510) (o := .cells #[.int .i64 t507, .int .i64 t508] 29 (0, 0)) (by (with_reducible repeat (first|apply bA_|apply bN_|apply bD_)); refine blk_put (cs := #[.int .i64 t507, .int .i64 0]) ?_ 1 _ rfl; (with_reducible repeat (first|apply bA_|apply bN_|apply bD_)); refine blk_put (cs := #[.int .i64 0, .int .i64 0]) ?_ 0 _ rfl; (with_reducible repeat (first|apply bA_|apply bN_|apply bD_)); exact BK510.out) hb); replace HB := A_ (below_step (hB_ w) hb); (try clear hb); (try clear hb2); (try clear hk); (try clear hi)))
    go_ret
    exact ⟨by first | rfl | (simp [errW_none, errW_some] <;> rfl) | (simp [*, errW_none, errW_some] <;> rfl), hB_ w⟩
   rw [if_neg c9] at H
   have c9b0 : decide (0 ≤ t511) = false := decide_eq_false c9
   clear c9
   replace H := Option.bind_eq_some_iff.mp H
   obtain ⟨t512, A200, H⟩ := H
   replace H : (tallysticklaw19_PlanMissing.l0 k l1 t505 t512 (-1) 0 a0_0 a0_1 a0_2 t507 t508) = some r := H
   have A20 := A_ A200; clear A200
   have H' := A_ H
   clear H
   go_enter Try.func5, Try.ntmps5
   go_wp2_with (first | ((with_reducible refine gate_dst (N := 2) rfl ?_); refine box_event ?hg (N := 2) ?hd (cs := #[.int .i64 a0_0, .int .i64 a0_1, .int .i64 a0_2]) (t := 23) ?hr ?_; (case hd => rfl); (case hg => rfl); (case hr => first | (go_simp; done) | (go_simp; rfl)); intro gb504 hg w21 hbox hb; replace HO1 := A_ (Kd.V_below (Kd.V_elderB (v_ HO1) gb504 (Nat.le_of_eq hg.symm)) hb); have BK504 := A_ hbox; have GW504 := A_ ((by rw [hg]; exact (below_size (hB_ w)) : w.heap.size ≤ gb504)); have GE504 := A_ ((by rw [hg]; exact (below_size (hB_ w)) : w.heap.size ≤ gb504)); replace HB := A_ (below_step (hB_ w) hb); clear hb hbox hg) | ((with_reducible refine gate_callee (f := 12) rfl ?_); refine goesL_ (some 18) rfl rfl Try.func12 (by kernel_rfl) rfl #[] rfl (by (try simp only [List.map_toArray, List.map_cons, List.map_nil]); first | done | rfl | (simp only [List.length_drop, List.length_take]; rfl)) ?_; (with_reducible refine (tallysticklaw19_shown.calls k  t505 _ A3.out).mono ?_); rintro e w22 ⟨rfl, hb⟩; refine ⟨_, rfl, ?_⟩; replace HO1 := A_ (Kd.V_below (v_ HO1) hb); replace BK504 := A_ (blk_below (g := gb504) (b_ BK504) hb); replace HB := A_ (below_step (hB_ w) hb); (try clear hb); (try clear hb2); (try clear hk); (try clear hi); obtain ⟨hcz23_0, hcz23_1, hcz23_2, hfz23_0, hfz23_1, hfz23_2⟩ := cf3_ BK504) | ((with_reducible refine gate_callee (f := 13) rfl ?_); refine goesL_ (some 21) rfl rfl Try.func13 (by kernel_rfl) rfl #[.agg #[.int .i64 a0_0, .int .i64 a0_1, .int .i64 a0_2], .slice A1 l1.length c1] rfl (by (try simp only [List.map_toArray, List.map_cons, List.map_nil]); first | done | rfl | (simp only [List.length_drop, List.length_take]; rfl)) ?_; (with_reducible refine (tallystickref19_Small.calls k a0_0 a0_1 a0_2 _ _ l1 true _ ?side1 ?side2 A4.out).mono ?_); (case side1 => repeat (first | exact (Kd.V_reads' HO1.out).2.2 | (with_reducible refine Kd.C_alloc ?_ _) | (with_reducible refine Kd.C_drewN ?_ _) | (with_reducible refine Kd.C_drew ?_))); (case side2 => exact (Kd.V_reads' HO1.out).2.1); rintro e w24 ⟨rfl, hb⟩; refine ⟨_, rfl, ?_⟩; replace HO1 := A_ (Kd.V_below (v_ HO1) hb); replace BK504 := A_ (blk_below (g := gb504) (b_ BK504) hb); replace HB := A_ (below_step (hB_ w) hb); (try clear hb); (try clear hb2); (try clear hk); (try clear hi); obtain ⟨hcz25_0, hcz25_1, hcz25_2, hfz25_0, hfz25_1, hfz25_2⟩ := cf3_ BK504) | ((with_reducible refine gate_callee (f := 17) rfl ?_); refine goesL_ (some 28) rfl rfl Try.func17 (by kernel_rfl) rfl #[.agg #[.int .i64 a0_0, .int .i64 a0_1, .int .i64 a0_2], .slice A1 l1.length c1] rfl (by (try simp only [List.map_toArray, List.map_cons, List.map_nil]); first | done | rfl | (simp only [List.length_drop, List.length_take]; rfl)) ?_; (with_reducible refine (plan_Missing.calls a0_0 a0_1 a0_2 _ _ l1 t507 t508 true _ ?side1 ?side2 A6.out).mono ?_); (case side1 => repeat (first | exact (Kd.V_reads' HO1.out).2.2 | (with_reducible refine Kd.C_alloc ?_ _) | (with_reducible refine Kd.C_drewN ?_ _) | (with_reducible refine Kd.C_drew ?_))); (case side2 => exact (Kd.V_reads' HO1.out).2.1); rintro e w26 ⟨rfl, hb⟩; refine ⟨_, rfl, ?_⟩; replace HO1 := A_ (Kd.V_below (v_ HO1) hb); replace BK504 := A_ (blk_below (g := gb504) (b_ BK504) hb); replace HB := A_ (below_step (hB_ w) hb); (try clear hb); (try clear hb2); (try clear hk); (try clear hi)) | ((with_reducible refine gate_dst (N := 7) rfl ?_); refine box_event ?hg (N := 7) ?hd (cs := #[.int .i64 0, .int .i64 0]) (t := 29) ?hr ?_; (case hd => rfl); (case hg => rfl); (case hr => first | (go_simp; done) | (go_simp; rfl)); intro gb510 hg w27 hbox hb; replace HO1 := A_ (Kd.V_below (Kd.V_elderB (v_ HO1) gb510 (Nat.le_of_eq hg.symm)) hb); have BK510 := A_ hbox; have GW510 := A_ ((by rw [hg]; exact (below_size (hB_ w)) : w.heap.size ≤ gb510)); have GE510 := A_ ((by rw [hg]; exact (below_size (hB_ w)) : w.heap.size ≤ gb510)); replace HB := A_ (below_step (hB_ w) hb); have NB504_510 := A_ ((by rw [hg]; exact Nat.ne_of_lt (blk_lt (g := gb504) (b_ BK504)) : gb504 ≠ gb510)); have NB510_504 := A_ ((by rw [hg]; exact Nat.ne_of_gt (blk_lt (g := gb504) (b_ BK504)) : gb510 ≠ gb504)); replace BK504 := A_ (blk_below (g := gb504) (b_ BK504) hb); clear hb hbox hg; have hnb28 := NB510_504.out; have hnc28 := NB504_510.out; obtain ⟨hcz29_0, hcz29_1, hfz29_0, hfz29_1⟩ := cf2_ BK510) | ((with_reducible refine gate_callee (f := 18) rfl ?_); refine goesL_ (some 36) rfl rfl Try.func18 (by kernel_rfl) rfl #[.slice A1 l1.length c1, .agg #[.int .i64 t507, .int .i64 t508]] rfl (by (try simp only [List.map_toArray, List.map_cons, List.map_nil]); first | done | rfl | (simp only [List.length_drop, List.length_take]; rfl)) ?_; (with_reducible refine (tallystickref19_Find.calls k _ _ l1 t507 t508 t511 _ ?side1 ?side2 A8.out).mono ?_); (case side1 => refine (Kd.V_reads' (e := 41) (base := w.heap.size) (ok := fun k_ => (((P1_ k_ ∨ w.heap.size ≤ k_) ∧ k_ ≠ gb504) ∧ k_ ≠ gb510)) (n := l1.length) (c := c1) ?_).2.2; exact (by (with_reducible repeat (first|apply vA_|apply vN_|apply vD_)); exact (Kd.V_mono (Kd.V_far (p := ⟨gb510, 1, none⟩) (Kd.V_far (p := ⟨gb510, 0, none⟩) (Kd.V_mono HO1.out (fun k_ hk => (⟨hk, hk.2⟩ : _ ∧ k_ ≠ gb510))) (fun _ hk => hk.2) (.int .i64 t507)) (fun _ hk => hk.2) (.int .i64 t508)) (fun _ h_ => h_.1)))); (case side2 => exact (Kd.V_reads' HO1.out).2.1); rintro e w30 ⟨rfl, hb⟩; refine ⟨_, rfl, ?_⟩; replace HO1 := A_ (Kd.V_below (by (with_reducible repeat (first|apply vA_|apply vN_|apply vD_)); exact (Kd.V_mono (Kd.V_far (p := ⟨gb510, 1, none⟩) (Kd.V_far (p := ⟨gb510, 0, none⟩) (Kd.V_mono HO1.out (fun k_ hk => (⟨hk, hk.2⟩ : _ ∧ k_ ≠ gb510))) (fun _ hk => hk.2) (.int .i64 t507)) (fun _ hk => hk.2) (.int .i64 t508)) (fun _ h_ => h_.1))) hb); replace BK504 := A_ (blk_below (g := gb504) (o := .cells #[.int .i64 a0_0, .int .i64 a0_1, .int .i64 a0_2] 23 (0, 0)) (by (with_reducible repeat (first|apply bA_|apply bN_|apply bD_)); refine blk_far ?_ NB504_510.out _; (with_reducible repeat (first|apply bA_|apply bN_|apply bD_)); refine blk_far ?_ NB504_510.out _; (with_reducible repeat (first|apply bA_|apply bN_|apply bD_)); exact BK504.out) hb); replace BK510 := A_ (blk_below (g := gb510) (o := .cells #[.int .i64 t507, .int .i64 t508] 29 (0, 0)) (by (with_reducible repeat (first|apply bA_|apply bN_|apply bD_)); refine blk_put (cs := #[.int .i64 t507, .int .i64 0]) ?_ 1 _ rfl; (with_reducible repeat (first|apply bA_|apply bN_|apply bD_)); refine blk_put (cs := #[.int .i64 0, .int .i64 0]) ?_ 0 _ rfl; (with_reducible repeat (first|apply bA_|apply bN_|apply bD_)); exact BK510.out) hb); replace HB := A_ (below_step (hB_ w) hb); (try clear hb); (try clear hb2); (try clear hk); (try clear hi); obtain ⟨hcz31_0, hcz31_1, hcz31_2, hfz31_0, hfz31_1, hfz31_2⟩ := cf3_ BK504) | ((with_reducible refine gate_callee (f := 14) rfl ?_); refine goesL_ (some 39) rfl rfl Try.func14 (by kernel_rfl) rfl #[.agg #[.int .i64 a0_0, .int .i64 a0_1, .int .i64 a0_2]] rfl (by (try simp only [List.map_toArray, List.map_cons, List.map_nil]); first | done | rfl | (simp only [List.length_drop, List.length_take]; rfl)) ?_; (with_reducible refine (plan_Pieces.calls k a0_0 a0_1 a0_2 t512 _ A20.out).mono ?_); rintro e w32 ⟨v513, rfl, ho0, hb⟩; refine ⟨_, rfl, ?_⟩; replace HO1 := A_ (Kd.V_below (v_ HO1) hb); have HO514 := A_ (Kd.V_lower (Kd.V_mono (ok' := fun k_ => (P1_ k_ ∨ w.heap.size ≤ k_) ∧ k_ ≠ gb504 ∧ k_ ≠ gb510) ho0 (fun k_ hk_ => ⟨(.inr (Nat.le_trans (below_size (hB_ w)) hk_)), (Kd.freshB (g := gb504) (b_ BK504) k_ hk_), (Kd.freshB (g := gb510) (b_ BK510) k_ hk_)⟩)) (below_size (hB_ w))); replace BK504 := A_ (blk_below (g := gb504) (b_ BK504) hb); replace BK510 := A_ (blk_below (g := gb510) (b_ BK510) hb); replace HB := A_ (below_step (hB_ w) hb); (try clear hb); (try clear hb2); (try clear hk); (try clear hi); (try clear ho0)))
   go_loopg [10, 11] k (fun kq v10 v11 w' => ∃ (x10_1 : Int) (x11_1 : Int), v10 = .int .i64 x10_1 ∧ v11 = .int .i64 x11_1 ∧ AsC (tallysticklaw19_PlanMissing.l0 kq l1 t505 t512 x10_1 x11_1 a0_0 a0_1 a0_2 t507 t508 = some r) ∧ AsC (kq ≤ k) ∧ AsC (Kd.V k41 41 w' w.heap.size (fun k_ => (P1_ k_ ∨ w.heap.size ≤ k_) ∧ k_ ≠ gb504 ∧ k_ ≠ gb510) (.slice A1 l1.length c1) l1) ∧ AsC (Kd.V k29 29 w' w.heap.size (fun k_ => (P1_ k_ ∨ w.heap.size ≤ k_) ∧ k_ ≠ gb504 ∧ k_ ≠ gb510) v513 t512) ∧ AsC (w'.heap[gb504]? = some (.cells #[.int .i64 a0_0, .int .i64 a0_1, .int .i64 a0_2] 23 (0, 0))) ∧ AsC (w'.heap[gb510]? = some (.cells #[.int .i64 t507, .int .i64 t508] 29 (0, 0))) ∧ AsC (Below w.heap.size w w'))
   case atStart => exact ⟨((-1)), (0), (by first | rfl | (simp; done) | (simp [*]; done)), (by first | rfl | (simp; done) | (simp [*]; done)), H', ⟨Nat.le_refl _⟩, ⟨Kd.V_mono (v_ HO1) (fun _ hk => ⟨hk.1.1, ⟨hk.1.2, hk.2⟩⟩)⟩, ⟨v_ HO514⟩, ⟨b_ BK504⟩, ⟨b_ BK510⟩, ⟨hB_ w⟩⟩
   case round =>
    clear H'; try clear c1; try clear c2; try clear p2; try clear c5; try clear c7; try clear c9; try clear c9b0; try clear c12; try clear c13; try clear c14; try clear c17; try clear c18; try clear c28; try clear hcz12_0; try clear hcz12_1; try clear hcz12_2; try clear hcz14_0; try clear hcz14_1; try clear hcz14_2; try clear hcz18_0; try clear hcz18_1; try clear hcz23_0; try clear hcz23_1; try clear hcz23_2; try clear hcz25_0; try clear hcz25_1; try clear hcz25_2; try clear hcz29_0; try clear hcz29_1; try clear hcz31_0; try clear hcz31_1; try clear hcz31_2; try clear hfz12_0; try clear hfz12_1; try clear hfz12_2; try clear hfz14_0; try clear hfz14_1; try clear hfz14_2; try clear hfz18_0; try clear hfz18_1; try clear hfz23_0; try clear hfz23_1; try clear hfz23_2; try clear hfz25_0; try clear hfz25_1; try clear hfz25_2; try clear hfz29_0; try clear hfz29_1; try clear hfz31_0; try clear hfz31_1; try clear hfz31_2
    obtain ⟨x10_1, x11_1, rfl, rfl, HA, HK1, HO_1, HO_9, BK504, BK510, HB⟩ := hrel
    cases gk with
    | zero => exact absurd HA.out (by simp [tallysticklaw19_PlanMissing.l0])
    | succ k1 =>
     have H := HA.out; clear HA
     simp only [tallysticklaw19_PlanMissing.l0] at H
     by_cases c33 : x11_1 < (t512.length : Int)
     ·rw [if_pos c33] at H
      have c33b0 : decide (x11_1 < (t512.length : Int)) = true := decide_eq_true c33
      clear c33
      by_cases c34 : 0 ≤ x11_1
      ·rw [if_pos c34] at H
       have c34b0 : decide (0 ≤ x11_1) = true := decide_eq_true c34
       clear c34
       by_cases c35 : (((rd_T29 t512 x11_1).f0) == t507 && (((rd_T29 t512 x11_1).f1) == t508)) = true
       ·rw [if_pos c35] at H
        have c35b0 : (((rd_T29 t512 x11_1).f0) == t507 && (((rd_T29 t512 x11_1).f1) == t508)) = true := c35
        (try (have c35b1 : decide (((rd_T29 t512 x11_1).f0) = t507 && (((rd_T29 t512 x11_1).f1) == t508)) = true := by simpa using c35))
        (try (have c35b2 : (((rd_T29 t512 x11_1).f0) == t507 && (((rd_T29 t512 x11_1).f1) == t508)) = true := by simpa using c35))
        clear c35
        have H' := A_ H
        clear H
        obtain ⟨Ao36, co36, eo36⟩ := Kd.V_slice HO_9.out
        subst eo36
        try go_wp2
        replace HO_1 := A_ (Kd.V_drew HO_1.out); replace HO_9 := A_ (Kd.V_drew HO_9.out); replace BK504 := A_ (blk_drew BK504.out); replace BK510 := A_ (blk_drew BK510.out); replace HB := A_ (below_drew1 HB.out)
        have p515 : 0 ≤ (x11_1 : Int) := of_decide_eq_true (by first | (with_reducible assumption) | assumption)
        have q515 : x11_1 < (t512.length : Int) := of_decide_eq_true (by first | (with_reducible assumption) | assumption)
        obtain ⟨ad515, e515, hx515_0, hx515_1⟩ := at_T29 (Kd.V_reads' HO_9.out).2.2 x11_1 p515 q515
        cases e515
        replace p515 := eq_true p515
        replace q515 := eq_true q515
        refine start_ (n := 6) (S := fun w' => w'.cell? ⟨gb510, 0, none⟩ = some (.int .i64 t507) ∧ w'.cell? ⟨gb510, 1, none⟩ = some (.int .i64 t508) ∧ w'.cell? (ad515.add ((x11_1).toNat * 2)) = some (.int .i64 ((rd_T29 t512 x11_1).f0)) ∧ w'.cell? ⟨(ad515.add ((x11_1).toNat * 2)).block, (ad515.add ((x11_1).toNat * 2)).off + 1, none⟩ = some (.int .i64 ((rd_T29 t512 x11_1).f1))) (ds := []) #[false, false, false, false, false, false] (by kernel_rfl) rfl rfl ⟨(blk_cell BK510.out 0).trans rfl, (blk_cell BK510.out 1).trans rfl, hx515_0, hx515_1⟩ (fun hHeld => ?_)
        generalize wr.drew = w37 at HO_1 HO_9 BK504 BK510 HB hx515_0 hx515_1 hHeld ⊢
        refine pure_ (i := 0) (N := some 46) (v := ?_) (a' := ?_) #[true, false, false, false, false, false] rfl rfl (by kernel_rfl) (fun _ _ _ h => h) (Or.inl ⟨by rfl, ?_⟩) ?_ ?_
        rotate_left
        ·intro w'
         go_simp
         with_reducible rfl
        rotate_left
        ·simp only [Act.put, List.setIfInBounds_toArray, List.set_cons_zero, List.set_cons_succ, i64_w, i32_w]
         rfl
        refine pure_ (i := 1) (N := some 47) (v := ?_) (a' := ?_) #[true, true, false, false, false, false] rfl rfl (by kernel_rfl) (fun _ _ _ h => h) (Or.inl ⟨by rfl, ?_⟩) ?_ ?_
        rotate_left
        ·intro w'
         go_simp
         with_reducible rfl
        rotate_left
        ·simp only [Act.put, List.setIfInBounds_toArray, List.set_cons_zero, List.set_cons_succ, i64_w, i32_w]
         rfl
        refine pure_ (i := 2) (N := some 48) (v := ?_) (a' := ?_) #[true, true, true, false, false, false] rfl rfl (by kernel_rfl) (fun _ _ _ h => h) (Or.inl ⟨by rfl, ?_⟩) ?_ ?_
        rotate_left
        ·intro w'
         go_simp
         with_reducible rfl
        rotate_left
        ·simp only [Act.put, List.setIfInBounds_toArray, List.set_cons_zero, List.set_cons_succ, i64_w, i32_w]
         rfl
        refine take_ (i := 3) (N := some 49) (v := ?_) (a' := ?_) #[true, true, true, true, false, false] rfl rfl (by kernel_rfl) (fun _ _ _ h => h) (Or.inl ⟨by rfl, ?_⟩) hHeld ?_ ?_
        rotate_left
        ·rintro w' ⟨s0, s1, s2, s3⟩
         go_simp
         with_reducible rfl
        rotate_left
        ·simp only [Act.put, List.setIfInBounds_toArray, List.set_cons_zero, List.set_cons_succ, i64_w, i32_w]
         rfl
        refine take_ (i := 4) (N := some 50) (v := ?_) (a' := ?_) #[true, true, true, true, true, false] rfl rfl (by kernel_rfl) (fun _ _ _ h => h) (Or.inl ⟨by rfl, ?_⟩) hHeld ?_ ?_
        rotate_left
        ·rintro w' ⟨s0, s1, s2, s3⟩
         go_simp
         with_reducible rfl
        rotate_left
        ·simp only [Act.put, List.setIfInBounds_toArray, List.set_cons_zero, List.set_cons_succ, i64_w, i32_w]
         rfl
        refine pure_ (i := 5) (N := some 51) (v := ?_) (a' := ?_) #[true, true, true, true, true, true] rfl rfl (by kernel_rfl) (fun _ _ _ h => h) (Or.inl ⟨by rfl, ?_⟩) ?_ ?_
        rotate_left
        ·intro w'
         go_simp
         with_reducible rfl
        rotate_left
        ·simp only [Act.put, List.setIfInBounds_toArray, List.set_cons_zero, List.set_cons_succ, i64_w, i32_w]
         rfl
        refine done_ (by kernel_rfl) ?_
        try go_wp2
        go_roundg k1
        case measure => have := HK1.out; omega
        case rel => exact ⟨(x11_1), (wrap64 (x11_1 + 1)), (by first | rfl | (simp; done) | (simp [*]; done)), (by first | rfl | (simp; done) | (simp [*]; done)), H', ⟨by have := HK1.out; omega⟩, ⟨v_ HO_1⟩, ⟨v_ HO_9⟩, ⟨b_ BK504⟩, ⟨b_ BK510⟩, ⟨hB_ w⟩⟩
       rw [if_neg c35] at H
       have c35b0 : (((rd_T29 t512 x11_1).f0) == t507 && (((rd_T29 t512 x11_1).f1) == t508)) = false := by simpa using c35
       (try (have c35b1 : decide (((rd_T29 t512 x11_1).f0) = t507 && (((rd_T29 t512 x11_1).f1) == t508)) = false := by simpa using c35))
       (try (have c35b2 : (((rd_T29 t512 x11_1).f0) == t507 && (((rd_T29 t512 x11_1).f1) == t508)) = false := by simpa using c35))
       (try (have c35b3 : ¬ (((rd_T29 t512 x11_1).f0) = t507 && (((rd_T29 t512 x11_1).f1) == t508)) := by simpa using c35))
       clear c35
       have H' := A_ H
       clear H
       obtain ⟨Ao38, co38, eo38⟩ := Kd.V_slice HO_9.out
       subst eo38
       try go_wp2
       replace HO_1 := A_ (Kd.V_drew HO_1.out); replace HO_9 := A_ (Kd.V_drew HO_9.out); replace BK504 := A_ (blk_drew BK504.out); replace BK510 := A_ (blk_drew BK510.out); replace HB := A_ (below_drew1 HB.out)
       have p515 : 0 ≤ (x11_1 : Int) := of_decide_eq_true (by first | (with_reducible assumption) | assumption)
       have q515 : x11_1 < (t512.length : Int) := of_decide_eq_true (by first | (with_reducible assumption) | assumption)
       obtain ⟨ad515, e515, hx515_0, hx515_1⟩ := at_T29 (Kd.V_reads' HO_9.out).2.2 x11_1 p515 q515
       cases e515
       replace p515 := eq_true p515
       replace q515 := eq_true q515
       refine start_ (n := 6) (S := fun w' => w'.cell? ⟨gb510, 0, none⟩ = some (.int .i64 t507) ∧ w'.cell? ⟨gb510, 1, none⟩ = some (.int .i64 t508) ∧ w'.cell? (ad515.add ((x11_1).toNat * 2)) = some (.int .i64 ((rd_T29 t512 x11_1).f0)) ∧ w'.cell? ⟨(ad515.add ((x11_1).toNat * 2)).block, (ad515.add ((x11_1).toNat * 2)).off + 1, none⟩ = some (.int .i64 ((rd_T29 t512 x11_1).f1))) (ds := []) #[false, false, false, false, false, false] (by kernel_rfl) rfl rfl ⟨(blk_cell BK510.out 0).trans rfl, (blk_cell BK510.out 1).trans rfl, hx515_0, hx515_1⟩ (fun hHeld => ?_)
       generalize wr.drew = w39 at HO_1 HO_9 BK504 BK510 HB hx515_0 hx515_1 hHeld ⊢
       refine pure_ (i := 0) (N := some 46) (v := ?_) (a' := ?_) #[true, false, false, false, false, false] rfl rfl (by kernel_rfl) (fun _ _ _ h => h) (Or.inl ⟨by rfl, ?_⟩) ?_ ?_
       rotate_left
       ·intro w'
        go_simp
        with_reducible rfl
       rotate_left
       ·simp only [Act.put, List.setIfInBounds_toArray, List.set_cons_zero, List.set_cons_succ, i64_w, i32_w]
        rfl
       refine pure_ (i := 1) (N := some 47) (v := ?_) (a' := ?_) #[true, true, false, false, false, false] rfl rfl (by kernel_rfl) (fun _ _ _ h => h) (Or.inl ⟨by rfl, ?_⟩) ?_ ?_
       rotate_left
       ·intro w'
        go_simp
        with_reducible rfl
       rotate_left
       ·simp only [Act.put, List.setIfInBounds_toArray, List.set_cons_zero, List.set_cons_succ, i64_w, i32_w]
        rfl
       refine pure_ (i := 2) (N := some 48) (v := ?_) (a' := ?_) #[true, true, true, false, false, false] rfl rfl (by kernel_rfl) (fun _ _ _ h => h) (Or.inl ⟨by rfl, ?_⟩) ?_ ?_
       rotate_left
       ·intro w'
        go_simp
        with_reducible rfl
       rotate_left
       ·simp only [Act.put, List.setIfInBounds_toArray, List.set_cons_zero, List.set_cons_succ, i64_w, i32_w]
        rfl
       refine take_ (i := 3) (N := some 49) (v := ?_) (a' := ?_) #[true, true, true, true, false, false] rfl rfl (by kernel_rfl) (fun _ _ _ h => h) (Or.inl ⟨by rfl, ?_⟩) hHeld ?_ ?_
       rotate_left
       ·rintro w' ⟨s0, s1, s2, s3⟩
        go_simp
        with_reducible rfl
       rotate_left
       ·simp only [Act.put, List.setIfInBounds_toArray, List.set_cons_zero, List.set_cons_succ, i64_w, i32_w]
        rfl
       refine take_ (i := 4) (N := some 50) (v := ?_) (a' := ?_) #[true, true, true, true, true, false] rfl rfl (by kernel_rfl) (fun _ _ _ h => h) (Or.inl ⟨by rfl, ?_⟩) hHeld ?_ ?_
       rotate_left
       ·rintro w' ⟨s0, s1, s2, s3⟩
        go_simp
        with_reducible rfl
       rotate_left
       ·simp only [Act.put, List.setIfInBounds_toArray, List.set_cons_zero, List.set_cons_succ, i64_w, i32_w]
        rfl
       refine pure_ (i := 5) (N := some 51) (v := ?_) (a' := ?_) #[true, true, true, true, true, true] rfl rfl (by kernel_rfl) (fun _ _ _ h => h) (Or.inl ⟨by rfl, ?_⟩) ?_ ?_
       rotate_left
       ·intro w'
        go_simp
        with_reducible rfl
       rotate_left
       ·simp only [Act.put, List.setIfInBounds_toArray, List.set_cons_zero, List.set_cons_succ, i64_w, i32_w]
        rfl
       refine done_ (by kernel_rfl) ?_
       try go_wp2
       go_roundg k1
       case measure => have := HK1.out; omega
       case rel => exact ⟨(x10_1), (wrap64 (x11_1 + 1)), (by first | rfl | (simp; done) | (simp [*]; done)), (by first | rfl | (simp; done) | (simp [*]; done)), H', ⟨by have := HK1.out; omega⟩, ⟨v_ HO_1⟩, ⟨v_ HO_9⟩, ⟨b_ BK504⟩, ⟨b_ BK510⟩, ⟨hB_ w⟩⟩
      rw [if_neg c34] at H
      exact absurd H (by simp)
     rw [if_neg c33] at H
     have c33b0 : decide (x11_1 < (t512.length : Int)) = false := decide_eq_false c33
     clear c33
     replace H := Option.bind_eq_some_iff.mp H
     obtain ⟨⟨t516, t517, t518, t521, t524, t527, t528⟩, A400, H⟩ := H
     replace H : (if x10_1 < 0 then (tallysticklaw19_PlanMissing.j1 k1 l1 t505 t512 x10_1 true a0_0 a0_1 a0_2 t516 t517 t518 t521 t524 t527) else (tallysticklaw19_PlanMissing.j1 k1 l1 t505 t512 x10_1 (t528 != 0) a0_0 a0_1 a0_2 t516 t517 t518 t521 t524 t527)) = some r := H
     have A40 := A_ A400; clear A400; have HC41 := A_ H; clear H
     obtain ⟨Ao42, co42, eo42⟩ := Kd.V_slice HO_9.out
     subst eo42
     have hnb43 := NB504_510.out; have hnc43 := NB510_504.out
     obtain ⟨hcz44_0, hcz44_1, hcz44_2, hfz44_0, hfz44_1, hfz44_2⟩ := cf3_ BK504; obtain ⟨hcz45_0, hcz45_1, hfz45_0, hfz45_1⟩ := cf2_ BK510
     go_upto_region 18 with (first | ((with_reducible refine gate_callee (f := 19) rfl ?_); refine goesL_ (some 57) rfl rfl Try.func19 (by kernel_rfl) rfl #[.int .i64 a0_0, .agg #[.int .i64 t507, .int .i64 t508]] rfl (by (try simp only [List.map_toArray, List.map_cons, List.map_nil]); first | done | rfl | (simp only [List.length_drop, List.length_take]; rfl)) ?_; (with_reducible refine (tallystickref17_Sum.calls k1 a0_0 t507 t508 t516 t517 t518 t521 t524 t527 t528 _ A40.out).mono ?_); rintro e w46 ⟨v519, v522, v525, rfl, ho0, ho1, ho2, hb⟩; refine ⟨_, rfl, ?_⟩; replace HO_1 := A_ (Kd.V_mono (Kd.V_told (Kd.V_told (Kd.V_told (Kd.V_old (v_ HO_1) hb) (Kd.R_base ho0)) (Kd.R_base ho1)) (Kd.R_base ho2)) (fun _ h_ => h_.1)); replace HO_9 := A_ (Kd.V_mono (Kd.V_told (Kd.V_told (Kd.V_told (Kd.V_old (v_ HO_9) hb) (Kd.R_base ho0)) (Kd.R_base ho1)) (Kd.R_base ho2)) (fun _ h_ => h_.1)); have HO520 := A_ (Kd.R_lower (Kd.R_newM (M := fun k_ => (w.heap.size ≤ k_)) ho0 (below_size (hB_ w)) (fun k_ h_ => h_)) (below_size (hB_ w))); have HO523 := A_ (Kd.R_lower (Kd.R_newM (M := fun k_ => (w.heap.size ≤ k_)) ho1 (below_size (hB_ w)) (fun k_ h_ => h_)) (below_size (hB_ w))); have HO526 := A_ (Kd.R_lower (Kd.R_newM (M := fun k_ => (w.heap.size ≤ k_)) ho2 (below_size (hB_ w)) (fun k_ h_ => h_)) (below_size (hB_ w))); replace BK504 := A_ (blk_below (g := gb504) (b_ BK504) hb); replace BK510 := A_ (blk_below (g := gb510) (b_ BK510) hb); replace HB := A_ (below_step (hB_ w) hb); (try clear hb); (try clear hb2); (try clear hk); (try clear hi); (try clear ho0); (try clear ho1); (try clear ho2)) | ((with_reducible refine gate_dst (N := 12) rfl ?_); refine box_event ?hg (N := 12) ?hd (cs := #[.int .i64 0, .int .i64 0, .slice none 0 0, .slice none 0 0, .slice none 0 0, .bool false]) (t := 41) ?hr ?_; (case hd => rfl); (case hg => rfl); (case hr => first | (go_simp; done) | (go_simp; rfl)); intro gb529 hg w47 hbox hb; replace HO_1 := A_ (Kd.V_below (Kd.V_elderB (v_ HO_1) gb529 (Nat.le_of_eq hg.symm)) hb); replace HO_9 := A_ (Kd.V_below (Kd.V_elderB (v_ HO_9) gb529 (Nat.le_of_eq hg.symm)) hb); replace HO520 := A_ (Kd.R_below (r_ HO520) hb); replace HO523 := A_ (Kd.R_below (r_ HO523) hb); replace HO526 := A_ (Kd.R_below (r_ HO526) hb); have BK529 := A_ hbox; have GW529 := A_ ((by rw [hg]; exact (below_size (hB_ w)) : w.heap.size ≤ gb529)); have GE529 := A_ ((by rw [hg]; exact (below_size (hB_ w)) : w.heap.size ≤ gb529)); replace HB := A_ (below_step (hB_ w) hb); have NB504_529 := A_ ((by rw [hg]; exact Nat.ne_of_lt (blk_lt (g := gb504) (b_ BK504)) : gb504 ≠ gb529)); have NB529_504 := A_ ((by rw [hg]; exact Nat.ne_of_gt (blk_lt (g := gb504) (b_ BK504)) : gb529 ≠ gb504)); replace BK504 := A_ (blk_below (g := gb504) (b_ BK504) hb); have NB510_529 := A_ ((by rw [hg]; exact Nat.ne_of_lt (blk_lt (g := gb510) (b_ BK510)) : gb510 ≠ gb529)); have NB529_510 := A_ ((by rw [hg]; exact Nat.ne_of_gt (blk_lt (g := gb510) (b_ BK510)) : gb529 ≠ gb510)); replace BK510 := A_ (blk_below (g := gb510) (b_ BK510) hb); clear hb hbox hg; have hnb48 := NB529_504.out; have hnc48 := NB504_529.out; have hnb49 := NB529_510.out; have hnc49 := NB510_529.out; obtain ⟨hcz50_0, hcz50_1, hcz50_2, hcz50_3, hcz50_4, hcz50_5, hfz50_0, hfz50_1, hfz50_2, hfz50_3, hfz50_4, hfz50_5⟩ := cf6_ BK529; obtain ⟨Ao51, co51, eo51⟩ := Kd.R_slice HO520.out; subst eo51; obtain ⟨Ao52, co52, eo52⟩ := Kd.R_slice HO523.out; subst eo52; obtain ⟨Ao53, co53, eo53⟩ := Kd.R_slice HO526.out; subst eo53))
     (try simp only [Act.put, List.setIfInBounds_toArray, List.set_cons_zero, List.set_cons_succ])
     go_cut [65] (fun v65 wc => ∃ (kq : Nat) (x65_40 : Bool), v65 = .bool x65_40 ∧ AsC (tallysticklaw19_PlanMissing.j1 kq l1 t505 t512 x10_1 x65_40 a0_0 a0_1 a0_2 t516 t517 t518 t521 t524 t527 = some r) ∧ AsC (kq ≤ k1) ∧ AsC (Kd.V k41 41 wc w.heap.size (fun k_ => (P1_ k_ ∨ w.heap.size ≤ k_) ∧ some k_ ≠ ((.slice Ao51 t518.length co51) : Value).ownBlock ∧ some k_ ≠ ((.slice Ao52 t521.length co52) : Value).ownBlock ∧ some k_ ≠ ((.slice Ao53 t524.length co53) : Value).ownBlock ∧ k_ ≠ gb504 ∧ k_ ≠ gb510 ∧ k_ ≠ gb529) (.slice A1 l1.length c1) l1) ∧ AsC (Kd.V k29 29 wc w.heap.size (fun k_ => (P1_ k_ ∨ w.heap.size ≤ k_) ∧ some k_ ≠ ((.slice Ao51 t518.length co51) : Value).ownBlock ∧ some k_ ≠ ((.slice Ao52 t521.length co52) : Value).ownBlock ∧ some k_ ≠ ((.slice Ao53 t524.length co53) : Value).ownBlock ∧ k_ ≠ gb504 ∧ k_ ≠ gb510 ∧ k_ ≠ gb529) (.slice Ao42 t512.length co42) t512) ∧ AsC (Kd.R (Kd.int .u64) 57 wc w.heap.size (fun k_ => (w.heap.size ≤ k_) ∧ some k_ ≠ ((.slice Ao52 t521.length co52) : Value).ownBlock ∧ some k_ ≠ ((.slice Ao53 t524.length co53) : Value).ownBlock) (.slice Ao51 t518.length co51) t518) ∧ AsC (Kd.R (Kd.int .u64) 57 wc w.heap.size (fun k_ => (w.heap.size ≤ k_) ∧ some k_ ≠ ((.slice Ao51 t518.length co51) : Value).ownBlock ∧ some k_ ≠ ((.slice Ao53 t524.length co53) : Value).ownBlock) (.slice Ao52 t521.length co52) t521) ∧ AsC (Kd.R (Kd.int .u64) 57 wc w.heap.size (fun k_ => (w.heap.size ≤ k_) ∧ some k_ ≠ ((.slice Ao51 t518.length co51) : Value).ownBlock ∧ some k_ ≠ ((.slice Ao52 t521.length co52) : Value).ownBlock) (.slice Ao53 t524.length co53) t524) ∧ AsC (wc.heap[gb504]? = some (.cells #[.int .i64 a0_0, .int .i64 a0_1, .int .i64 a0_2] 23 (0, 0))) ∧ AsC (wc.heap[gb510]? = some (.cells #[.int .i64 t507, .int .i64 t508] 29 (0, 0))) ∧ AsC (wc.heap[gb529]? = some (.cells #[.int .i64 t516, .int .i64 t517, (.slice Ao51 t518.length co51), (.slice Ao52 t521.length co52), (.slice Ao53 t524.length co53), .bool t527] 41 (0, 0))) ∧ AsC (Below w.heap.size w wc))
     case first =>
      have H := HC41.out; clear HC41
      by_cases c54 : x10_1 < 0
      ·rw [if_pos c54] at H
       have c54b0 : decide (x10_1 < 0) = true := decide_eq_true c54
       clear c54
       (first | rw [c54b0] | (simp only [i64_w, i32_w]; rw [c54b0]) | skip)
       have H' := A_ H
       clear H
       go_wp2
       go_meet
       case rel => exact ⟨_, (true), (by first | rfl | (simp; done) | (simp [*]; done)), H', ⟨by have := HK1.out; first | omega | exact Nat.le_refl _⟩, ⟨by (with_reducible repeat (first|apply vA_|apply vN_|apply vD_)); exact Kd.V_mono (Kd.V_far (p := ⟨gb529, 5, none⟩) (Kd.V_far (p := ⟨gb529, 4, none⟩) (Kd.V_far (p := ⟨gb529, 3, none⟩) (Kd.V_far (p := ⟨gb529, 2, none⟩) (Kd.V_far (p := ⟨gb529, 1, none⟩) (Kd.V_far (p := ⟨gb529, 0, none⟩) (Kd.V_mono HO_1.out (fun k_ hk => (⟨hk, hk.2⟩ : _ ∧ k_ ≠ gb529))) (fun _ hk => hk.2) (.int .i64 t516)) (fun _ hk => hk.2) (.int .i64 t517)) (fun _ hk => hk.2) (.slice Ao51 t518.length co51)) (fun _ hk => hk.2) (.slice Ao52 t521.length co52)) (fun _ hk => hk.2) (.slice Ao53 t524.length co53)) (fun _ hk => hk.2) (.bool t527)) (fun _ hk => ⟨hk.1.1.1.1.1.1, ⟨hk.1.1.1.1.2, ⟨hk.1.1.1.2, ⟨hk.1.1.2, ⟨hk.1.1.1.1.1.2.1, ⟨hk.1.1.1.1.1.2.2, hk.1.2⟩⟩⟩⟩⟩⟩)⟩, ⟨by (with_reducible repeat (first|apply vA_|apply vN_|apply vD_)); exact Kd.V_mono (Kd.V_far (p := ⟨gb529, 5, none⟩) (Kd.V_far (p := ⟨gb529, 4, none⟩) (Kd.V_far (p := ⟨gb529, 3, none⟩) (Kd.V_far (p := ⟨gb529, 2, none⟩) (Kd.V_far (p := ⟨gb529, 1, none⟩) (Kd.V_far (p := ⟨gb529, 0, none⟩) (Kd.V_mono HO_9.out (fun k_ hk => (⟨hk, hk.2⟩ : _ ∧ k_ ≠ gb529))) (fun _ hk => hk.2) (.int .i64 t516)) (fun _ hk => hk.2) (.int .i64 t517)) (fun _ hk => hk.2) (.slice Ao51 t518.length co51)) (fun _ hk => hk.2) (.slice Ao52 t521.length co52)) (fun _ hk => hk.2) (.slice Ao53 t524.length co53)) (fun _ hk => hk.2) (.bool t527)) (fun _ hk => ⟨hk.1.1.1.1.1.1, ⟨hk.1.1.1.1.2, ⟨hk.1.1.1.2, ⟨hk.1.1.2, ⟨hk.1.1.1.1.1.2.1, ⟨hk.1.1.1.1.1.2.2, hk.1.2⟩⟩⟩⟩⟩⟩)⟩, ⟨by (with_reducible repeat (first|apply rA_|apply rN_|apply rD_)); exact Kd.R_mono (Kd.R_far (p := ⟨gb529, 5, none⟩) (Kd.R_far (p := ⟨gb529, 4, none⟩) (Kd.R_far (p := ⟨gb529, 3, none⟩) (Kd.R_far (p := ⟨gb529, 2, none⟩) (Kd.R_far (p := ⟨gb529, 1, none⟩) (Kd.R_far (p := ⟨gb529, 0, none⟩) (Kd.R_types HO520.out BK529.out (by decide)) (fun _ hk => hk.2) (.int .i64 t516)) (fun _ hk => hk.2) (.int .i64 t517)) (fun _ hk => hk.2) (.slice Ao51 t518.length co51)) (fun _ hk => hk.2) (.slice Ao52 t521.length co52)) (fun _ hk => hk.2) (.slice Ao53 t524.length co53)) (fun _ hk => hk.2) (.bool t527)) (fun _ hk => ⟨hk.1.1, ⟨hk.1.2.1, hk.1.2.2⟩⟩)⟩, ⟨by (with_reducible repeat (first|apply rA_|apply rN_|apply rD_)); exact Kd.R_mono (Kd.R_far (p := ⟨gb529, 5, none⟩) (Kd.R_far (p := ⟨gb529, 4, none⟩) (Kd.R_far (p := ⟨gb529, 3, none⟩) (Kd.R_far (p := ⟨gb529, 2, none⟩) (Kd.R_far (p := ⟨gb529, 1, none⟩) (Kd.R_far (p := ⟨gb529, 0, none⟩) (Kd.R_types HO523.out BK529.out (by decide)) (fun _ hk => hk.2) (.int .i64 t516)) (fun _ hk => hk.2) (.int .i64 t517)) (fun _ hk => hk.2) (.slice Ao51 t518.length co51)) (fun _ hk => hk.2) (.slice Ao52 t521.length co52)) (fun _ hk => hk.2) (.slice Ao53 t524.length co53)) (fun _ hk => hk.2) (.bool t527)) (fun _ hk => ⟨hk.1.1, ⟨hk.1.2.1, hk.1.2.2⟩⟩)⟩, ⟨by (with_reducible repeat (first|apply rA_|apply rN_|apply rD_)); exact Kd.R_mono (Kd.R_far (p := ⟨gb529, 5, none⟩) (Kd.R_far (p := ⟨gb529, 4, none⟩) (Kd.R_far (p := ⟨gb529, 3, none⟩) (Kd.R_far (p := ⟨gb529, 2, none⟩) (Kd.R_far (p := ⟨gb529, 1, none⟩) (Kd.R_far (p := ⟨gb529, 0, none⟩) (Kd.R_types HO526.out BK529.out (by decide)) (fun _ hk => hk.2) (.int .i64 t516)) (fun _ hk => hk.2) (.int .i64 t517)) (fun _ hk => hk.2) (.slice Ao51 t518.length co51)) (fun _ hk => hk.2) (.slice Ao52 t521.length co52)) (fun _ hk => hk.2) (.slice Ao53 t524.length co53)) (fun _ hk => hk.2) (.bool t527)) (fun _ hk => ⟨hk.1.1, ⟨hk.1.2.1, hk.1.2.2⟩⟩)⟩, ⟨by (with_reducible repeat (first|apply bA_|apply bN_|apply bD_)); refine blk_far ?_ NB504_529.out _; (with_reducible repeat (first|apply bA_|apply bN_|apply bD_)); refine blk_far ?_ NB504_529.out _; (with_reducible repeat (first|apply bA_|apply bN_|apply bD_)); refine blk_far ?_ NB504_529.out _; (with_reducible repeat (first|apply bA_|apply bN_|apply bD_)); refine blk_far ?_ NB504_529.out _; (with_reducible repeat (first|apply bA_|apply bN_|apply bD_)); refine blk_far ?_ NB504_529.out _; (with_reducible repeat (first|apply bA_|apply bN_|apply bD_)); refine blk_far ?_ NB504_529.out _; (with_reducible repeat (first|apply bA_|apply bN_|apply bD_)); exact BK504.out⟩, ⟨by (with_reducible repeat (first|apply bA_|apply bN_|apply bD_)); refine blk_far ?_ NB510_529.out _; (with_reducible repeat (first|apply bA_|apply bN_|apply bD_)); refine blk_far ?_ NB510_529.out _; (with_reducible repeat (first|apply bA_|apply bN_|apply bD_)); refine blk_far ?_ NB510_529.out _; (with_reducible repeat (first|apply bA_|apply bN_|apply bD_)); refine blk_far ?_ NB510_529.out _; (with_reducible repeat (first|apply bA_|apply bN_|apply bD_)); refine blk_far ?_ NB510_529.out _; (with_reducible repeat (first|apply bA_|apply bN_|apply bD_)); refine blk_far ?_ NB510_529.out _; (with_reducible repeat (first|apply bA_|apply bN_|apply bD_)); exact BK510.out⟩, ⟨by (with_reducible repeat (first|apply bA_|apply bN_|apply bD_)); refine blk_put (cs := #[.int .i64 t516, .int .i64 t517, .slice Ao51 t518.length co51, .slice Ao52 t521.length co52, .slice Ao53 t524.length co53, .bool false]) ?_ 5 _ rfl; (with_reducible repeat (first|apply bA_|apply bN_|apply bD_)); refine blk_put (cs := #[.int .i64 t516, .int .i64 t517, .slice Ao51 t518.length co51, .slice Ao52 t521.length co52, .slice none 0 0, .bool false]) ?_ 4 _ rfl; (with_reducible repeat (first|apply bA_|apply bN_|apply bD_)); refine blk_put (cs := #[.int .i64 t516, .int .i64 t517, .slice Ao51 t518.length co51, .slice none 0 0, .slice none 0 0, .bool false]) ?_ 3 _ rfl; (with_reducible repeat (first|apply bA_|apply bN_|apply bD_)); refine blk_put (cs := #[.int .i64 t516, .int .i64 t517, .slice none 0 0, .slice none 0 0, .slice none 0 0, .bool false]) ?_ 2 _ rfl; (with_reducible repeat (first|apply bA_|apply bN_|apply bD_)); refine blk_put (cs := #[.int .i64 t516, .int .i64 0, .slice none 0 0, .slice none 0 0, .slice none 0 0, .bool false]) ?_ 1 _ rfl; (with_reducible repeat (first|apply bA_|apply bN_|apply bD_)); refine blk_put (cs := #[.int .i64 0, .int .i64 0, .slice none 0 0, .slice none 0 0, .slice none 0 0, .bool false]) ?_ 0 _ rfl; (with_reducible repeat (first|apply bA_|apply bN_|apply bD_)); exact BK529.out⟩, ⟨hB_ w⟩⟩
      rw [if_neg c54] at H
      have c54b0 : decide (x10_1 < 0) = false := decide_eq_false c54
      clear c54
      (first | rw [c54b0] | (simp only [i64_w, i32_w]; rw [c54b0]) | skip)
      have H' := A_ H
      clear H
      go_wp2
      go_meet
      case rel => exact ⟨_, ((t528 != 0)), (by first | rfl | (simp; done) | (simp [*]; done)), H', ⟨by have := HK1.out; first | omega | exact Nat.le_refl _⟩, ⟨by (with_reducible repeat (first|apply vA_|apply vN_|apply vD_)); exact Kd.V_mono (Kd.V_far (p := ⟨gb529, 5, none⟩) (Kd.V_far (p := ⟨gb529, 4, none⟩) (Kd.V_far (p := ⟨gb529, 3, none⟩) (Kd.V_far (p := ⟨gb529, 2, none⟩) (Kd.V_far (p := ⟨gb529, 1, none⟩) (Kd.V_far (p := ⟨gb529, 0, none⟩) (Kd.V_mono HO_1.out (fun k_ hk => (⟨hk, hk.2⟩ : _ ∧ k_ ≠ gb529))) (fun _ hk => hk.2) (.int .i64 t516)) (fun _ hk => hk.2) (.int .i64 t517)) (fun _ hk => hk.2) (.slice Ao51 t518.length co51)) (fun _ hk => hk.2) (.slice Ao52 t521.length co52)) (fun _ hk => hk.2) (.slice Ao53 t524.length co53)) (fun _ hk => hk.2) (.bool t527)) (fun _ hk => ⟨hk.1.1.1.1.1.1, ⟨hk.1.1.1.1.2, ⟨hk.1.1.1.2, ⟨hk.1.1.2, ⟨hk.1.1.1.1.1.2.1, ⟨hk.1.1.1.1.1.2.2, hk.1.2⟩⟩⟩⟩⟩⟩)⟩, ⟨by (with_reducible repeat (first|apply vA_|apply vN_|apply vD_)); exact Kd.V_mono (Kd.V_far (p := ⟨gb529, 5, none⟩) (Kd.V_far (p := ⟨gb529, 4, none⟩) (Kd.V_far (p := ⟨gb529, 3, none⟩) (Kd.V_far (p := ⟨gb529, 2, none⟩) (Kd.V_far (p := ⟨gb529, 1, none⟩) (Kd.V_far (p := ⟨gb529, 0, none⟩) (Kd.V_mono HO_9.out (fun k_ hk => (⟨hk, hk.2⟩ : _ ∧ k_ ≠ gb529))) (fun _ hk => hk.2) (.int .i64 t516)) (fun _ hk => hk.2) (.int .i64 t517)) (fun _ hk => hk.2) (.slice Ao51 t518.length co51)) (fun _ hk => hk.2) (.slice Ao52 t521.length co52)) (fun _ hk => hk.2) (.slice Ao53 t524.length co53)) (fun _ hk => hk.2) (.bool t527)) (fun _ hk => ⟨hk.1.1.1.1.1.1, ⟨hk.1.1.1.1.2, ⟨hk.1.1.1.2, ⟨hk.1.1.2, ⟨hk.1.1.1.1.1.2.1, ⟨hk.1.1.1.1.1.2.2, hk.1.2⟩⟩⟩⟩⟩⟩)⟩, ⟨by (with_reducible repeat (first|apply rA_|apply rN_|apply rD_)); exact Kd.R_mono (Kd.R_far (p := ⟨gb529, 5, none⟩) (Kd.R_far (p := ⟨gb529, 4, none⟩) (Kd.R_far (p := ⟨gb529, 3, none⟩) (Kd.R_far (p := ⟨gb529, 2, none⟩) (Kd.R_far (p := ⟨gb529, 1, none⟩) (Kd.R_far (p := ⟨gb529, 0, none⟩) (Kd.R_types HO520.out BK529.out (by decide)) (fun _ hk => hk.2) (.int .i64 t516)) (fun _ hk => hk.2) (.int .i64 t517)) (fun _ hk => hk.2) (.slice Ao51 t518.length co51)) (fun _ hk => hk.2) (.slice Ao52 t521.length co52)) (fun _ hk => hk.2) (.slice Ao53 t524.length co53)) (fun _ hk => hk.2) (.bool t527)) (fun _ hk => ⟨hk.1.1, ⟨hk.1.2.1, hk.1.2.2⟩⟩)⟩, ⟨by (with_reducible repeat (first|apply rA_|apply rN_|apply rD_)); exact Kd.R_mono (Kd.R_far (p := ⟨gb529, 5, none⟩) (Kd.R_far (p := ⟨gb529, 4, none⟩) (Kd.R_far (p := ⟨gb529, 3, none⟩) (Kd.R_far (p := ⟨gb529, 2, none⟩) (Kd.R_far (p := ⟨gb529, 1, none⟩) (Kd.R_far (p := ⟨gb529, 0, none⟩) (Kd.R_types HO523.out BK529.out (by decide)) (fun _ hk => hk.2) (.int .i64 t516)) (fun _ hk => hk.2) (.int .i64 t517)) (fun _ hk => hk.2) (.slice Ao51 t518.length co51)) (fun _ hk => hk.2) (.slice Ao52 t521.length co52)) (fun _ hk => hk.2) (.slice Ao53 t524.length co53)) (fun _ hk => hk.2) (.bool t527)) (fun _ hk => ⟨hk.1.1, ⟨hk.1.2.1, hk.1.2.2⟩⟩)⟩, ⟨by (with_reducible repeat (first|apply rA_|apply rN_|apply rD_)); exact Kd.R_mono (Kd.R_far (p := ⟨gb529, 5, none⟩) (Kd.R_far (p := ⟨gb529, 4, none⟩) (Kd.R_far (p := ⟨gb529, 3, none⟩) (Kd.R_far (p := ⟨gb529, 2, none⟩) (Kd.R_far (p := ⟨gb529, 1, none⟩) (Kd.R_far (p := ⟨gb529, 0, none⟩) (Kd.R_types HO526.out BK529.out (by decide)) (fun _ hk => hk.2) (.int .i64 t516)) (fun _ hk => hk.2) (.int .i64 t517)) (fun _ hk => hk.2) (.slice Ao51 t518.length co51)) (fun _ hk => hk.2) (.slice Ao52 t521.length co52)) (fun _ hk => hk.2) (.slice Ao53 t524.length co53)) (fun _ hk => hk.2) (.bool t527)) (fun _ hk => ⟨hk.1.1, ⟨hk.1.2.1, hk.1.2.2⟩⟩)⟩, ⟨by (with_reducible repeat (first|apply bA_|apply bN_|apply bD_)); refine blk_far ?_ NB504_529.out _; (with_reducible repeat (first|apply bA_|apply bN_|apply bD_)); refine blk_far ?_ NB504_529.out _; (with_reducible repeat (first|apply bA_|apply bN_|apply bD_)); refine blk_far ?_ NB504_529.out _; (with_reducible repeat (first|apply bA_|apply bN_|apply bD_)); refine blk_far ?_ NB504_529.out _; (with_reducible repeat (first|apply bA_|apply bN_|apply bD_)); refine blk_far ?_ NB504_529.out _; (with_reducible repeat (first|apply bA_|apply bN_|apply bD_)); refine blk_far ?_ NB504_529.out _; (with_reducible repeat (first|apply bA_|apply bN_|apply bD_)); exact BK504.out⟩, ⟨by (with_reducible repeat (first|apply bA_|apply bN_|apply bD_)); refine blk_far ?_ NB510_529.out _; (with_reducible repeat (first|apply bA_|apply bN_|apply bD_)); refine blk_far ?_ NB510_529.out _; (with_reducible repeat (first|apply bA_|apply bN_|apply bD_)); refine blk_far ?_ NB510_529.out _; (with_reducible repeat (first|apply bA_|apply bN_|apply bD_)); refine blk_far ?_ NB510_529.out _; (with_reducible repeat (first|apply bA_|apply bN_|apply bD_)); refine blk_far ?_ NB510_529.out _; (with_reducible repeat (first|apply bA_|apply bN_|apply bD_)); refine blk_far ?_ NB510_529.out _; (with_reducible repeat (first|apply bA_|apply bN_|apply bD_)); exact BK510.out⟩, ⟨by (with_reducible repeat (first|apply bA_|apply bN_|apply bD_)); refine blk_put (cs := #[.int .i64 t516, .int .i64 t517, .slice Ao51 t518.length co51, .slice Ao52 t521.length co52, .slice Ao53 t524.length co53, .bool false]) ?_ 5 _ rfl; (with_reducible repeat (first|apply bA_|apply bN_|apply bD_)); refine blk_put (cs := #[.int .i64 t516, .int .i64 t517, .slice Ao51 t518.length co51, .slice Ao52 t521.length co52, .slice none 0 0, .bool false]) ?_ 4 _ rfl; (with_reducible repeat (first|apply bA_|apply bN_|apply bD_)); refine blk_put (cs := #[.int .i64 t516, .int .i64 t517, .slice Ao51 t518.length co51, .slice none 0 0, .slice none 0 0, .bool false]) ?_ 3 _ rfl; (with_reducible repeat (first|apply bA_|apply bN_|apply bD_)); refine blk_put (cs := #[.int .i64 t516, .int .i64 t517, .slice none 0 0, .slice none 0 0, .slice none 0 0, .bool false]) ?_ 2 _ rfl; (with_reducible repeat (first|apply bA_|apply bN_|apply bD_)); refine blk_put (cs := #[.int .i64 t516, .int .i64 0, .slice none 0 0, .slice none 0 0, .slice none 0 0, .bool false]) ?_ 1 _ rfl; (with_reducible repeat (first|apply bA_|apply bN_|apply bD_)); refine blk_put (cs := #[.int .i64 0, .int .i64 0, .slice none 0 0, .slice none 0 0, .slice none 0 0, .bool false]) ?_ 0 _ rfl; (with_reducible repeat (first|apply bA_|apply bN_|apply bD_)); exact BK529.out⟩, ⟨hB_ w⟩⟩
     case rest =>
      clear HC41; try clear c1; try clear c2; try clear p2; try clear c3; try clear c4; try clear c5; try clear p5; try clear q5; try clear hx5; try clear p6; try clear c7; try clear c9; try clear c9b0; try clear c12; try clear c13; try clear c14; try clear c17; try clear c18; try clear c19; try clear c28; try clear c33; try clear c33b0; try clear c34; try clear c34b0; try clear c35; try clear c35b0; try clear c35b1; try clear c35b2; try clear c43; try clear c48; try clear c49; try clear p51; try clear q51; try clear hx51; try clear c54; try clear c54b0; try clear hcz12_0; try clear hcz12_1; try clear hcz12_2; try clear hcz14_0; try clear hcz14_1; try clear hcz14_2; try clear hcz18_0; try clear hcz18_1; try clear hcz23_0; try clear hcz23_1; try clear hcz23_2; try clear hcz25_0; try clear hcz25_1; try clear hcz25_2; try clear hcz29_0; try clear hcz29_1; try clear hcz31_0; try clear hcz31_1; try clear hcz31_2; try clear hcz44_0; try clear hcz44_1; try clear hcz44_2; try clear hcz45_0; try clear hcz45_1; try clear hcz50_0; try clear hcz50_1; try clear hcz50_2; try clear hcz50_3; try clear hcz50_4; try clear hcz50_5; try clear hfz12_0; try clear hfz12_1; try clear hfz12_2; try clear hfz14_0; try clear hfz14_1; try clear hfz14_2; try clear hfz18_0; try clear hfz18_1; try clear hfz23_0; try clear hfz23_1; try clear hfz23_2; try clear hfz25_0; try clear hfz25_1; try clear hfz25_2; try clear hfz29_0; try clear hfz29_1; try clear hfz31_0; try clear hfz31_1; try clear hfz31_2; try clear hfz44_0; try clear hfz44_1; try clear hfz44_2; try clear hfz45_0; try clear hfz45_1; try clear hfz50_0; try clear hfz50_1; try clear hfz50_2; try clear hfz50_3; try clear hfz50_4; try clear hfz50_5; try clear hx515_0; try clear hx515_1; try clear p2; try clear p515; try clear q515
      obtain ⟨kq, x65_40, rfl, HA, HJ40, HO_1, HO_9, HO_530002, HO_530003, HO_530004, BK504, BK510, BK529, HB⟩ := hcut
      cases kq with
      | zero => exact absurd HA.out (by simp [tallysticklaw19_PlanMissing.j1])
      | succ kj40 =>
       have H := HA.out; clear HA
       simp only [tallysticklaw19_PlanMissing.j1] at H
       by_cases c55 : x65_40 = true
       ·subst c55
        have H1 : (some false) = some r := by rw [if_pos rfl] at H; exact H
        clear H
        have H := H1
        clear H1
        obtain rfl := Option.some.inj H
        go_wp2
        go_ret
        exact ⟨by first | rfl | (simp [errW_none, errW_some] <;> rfl) | (simp [*, errW_none, errW_some] <;> rfl), hB_ w⟩
       replace c55 := Bool.eq_false_iff.mpr c55
       subst c55
       have H1 : ((some (([] : List (S41)) : List (S41))).bind fun y530 => (if y530.length + l1.length < 1466015503701 then ((some (y530 ++ l1 : List (S41))).bind fun y533 => ((some (([(⟨(⟨t516, t517⟩ : S29), t518, t521, t524, t527⟩ : S41)] : List (S41)) : List (S41))).bind fun y536 => (if y533.length + y536.length < 1466015503701 then ((plan_Missing.f a0_0 a0_1 a0_2 (y533 ++ y536)).bind fun bt542 => (if bt542.2.2 = true then (tallysticklaw19_PlanMissing.l1 kj40 t505 t512 x10_1 (-1) 0 bt542.1 bt542.2.1) else (some t505))) else (none)))) else (none))) = some r := by rw [if_neg (show ¬ (false = true) by decide)] at H; exact H
       clear H
       have H := H1
       clear H1
       obtain ⟨y530, hy530⟩ : ∃ y_ : List (S41), y_ = (([] : List (S41))) := ⟨_, rfl⟩
       replace H : (if y530.length + l1.length < 1466015503701 then ((some (y530 ++ l1 : List (S41))).bind fun y533 => ((some (([(⟨(⟨t516, t517⟩ : S29), t518, t521, t524, t527⟩ : S41)] : List (S41)) : List (S41))).bind fun y536 => (if y533.length + y536.length < 1466015503701 then ((plan_Missing.f a0_0 a0_1 a0_2 (y533 ++ y536)).bind fun bt542 => (if bt542.2.2 = true then (tallysticklaw19_PlanMissing.l1 kj40 t505 t512 x10_1 (-1) 0 bt542.1 bt542.2.1) else (some t505))) else (none)))) else (none)) = some r := by first | (rw [hy530]; with_reducible exact H) | (have H2_ := (Option.bind_some _ _).symm.trans H; rw [hy530]; with_reducible exact H2_) | (have H2_ := (Option.bind_some _ _).symm.trans H; with_reducible exact H2_) | with_reducible exact H | (rw [hy530]; exact H) | exact H
       have Ny530 := A_ hy530; clear hy530
       by_cases c56 : y530.length + l1.length < 1466015503701
       ·rw [if_pos c56] at H
        have LMc56 := A_ c56; clear c56
        obtain ⟨y533, hy533⟩ : ∃ y_ : List (S41), y_ = (y530 ++ l1) := ⟨_, rfl⟩
        replace H : ((some (([(⟨(⟨t516, t517⟩ : S29), t518, t521, t524, t527⟩ : S41)] : List (S41)) : List (S41))).bind fun y536 => (if y533.length + y536.length < 1466015503701 then ((plan_Missing.f a0_0 a0_1 a0_2 (y533 ++ y536)).bind fun bt542 => (if bt542.2.2 = true then (tallysticklaw19_PlanMissing.l1 kj40 t505 t512 x10_1 (-1) 0 bt542.1 bt542.2.1) else (some t505))) else (none))) = some r := by first | (rw [hy533]; with_reducible exact H) | (have H2_ := (Option.bind_some _ _).symm.trans H; rw [hy533]; with_reducible exact H2_) | (have H2_ := (Option.bind_some _ _).symm.trans H; with_reducible exact H2_) | with_reducible exact H | (rw [hy533]; exact H) | exact H
        have Ny533 := A_ hy533; clear hy533
        obtain ⟨y536, hy536⟩ : ∃ y_ : List (S41), y_ = (([(⟨(⟨t516, t517⟩ : S29), t518, t521, t524, t527⟩ : S41)] : List (S41))) := ⟨_, rfl⟩
        replace H : (if y533.length + y536.length < 1466015503701 then ((plan_Missing.f a0_0 a0_1 a0_2 (y533 ++ y536)).bind fun bt542 => (if bt542.2.2 = true then (tallysticklaw19_PlanMissing.l1 kj40 t505 t512 x10_1 (-1) 0 bt542.1 bt542.2.1) else (some t505))) else (none)) = some r := by first | (rw [hy536]; with_reducible exact H) | (have H2_ := (Option.bind_some _ _).symm.trans H; rw [hy536]; with_reducible exact H2_) | (have H2_ := (Option.bind_some _ _).symm.trans H; with_reducible exact H2_) | with_reducible exact H | (rw [hy536]; exact H) | exact H
        have Ny536 := A_ hy536; clear hy536
        by_cases c57 : y533.length + y536.length < 1466015503701
        ·rw [if_pos c57] at H
         have LMc57 := A_ c57; clear c57
         obtain ⟨y539, hy539⟩ : ∃ y_ : List (S41), y_ = (y533 ++ y536) := ⟨_, rfl⟩
         replace H : ((plan_Missing.f a0_0 a0_1 a0_2 y539).bind fun bt542 => (if bt542.2.2 = true then (tallysticklaw19_PlanMissing.l1 kj40 t505 t512 x10_1 (-1) 0 bt542.1 bt542.2.1) else (some t505))) = some r := by first | (rw [hy539]; with_reducible exact H) | (have H2_ := (Option.bind_some _ _).symm.trans H; rw [hy539]; with_reducible exact H2_) | (have H2_ := (Option.bind_some _ _).symm.trans H; with_reducible exact H2_) | with_reducible exact H | (rw [hy539]; exact H) | exact H
         have Ny539 := A_ hy539; clear hy539
         replace H := Option.bind_eq_some_iff.mp H
         obtain ⟨⟨t542, t543, t544⟩, A580, H⟩ := H
         replace H : (if t544 = true then (tallysticklaw19_PlanMissing.l1 kj40 t505 t512 x10_1 (-1) 0 t542 t543) else (some t505)) = some r := H
         have A58 := A_ A580; clear A580; have HX59 := A_ H; clear H
         try go_wp2
         replace HO_1 := A_ (Kd.V_drew HO_1.out); replace HO_9 := A_ (Kd.V_drew HO_9.out); replace HO_530002 := A_ (Kd.R_drew HO_530002.out); replace HO_530003 := A_ (Kd.R_drew HO_530003.out); replace HO_530004 := A_ (Kd.R_drew HO_530004.out); replace BK504 := A_ (blk_drew BK504.out); replace BK510 := A_ (blk_drew BK510.out); replace BK529 := A_ (blk_drew BK529.out); replace HB := A_ (below_drew1 HB.out)
         refine start_ (n := 14) (S := fun w' => w'.cell? ⟨gb504, 0, none⟩ = some (.int .i64 a0_0) ∧ w'.cell? ⟨gb504, 1, none⟩ = some (.int .i64 a0_1) ∧ w'.cell? ⟨gb504, 2, none⟩ = some (.int .i64 a0_2) ∧ w'.cell? ⟨gb529, 0, none⟩ = some (.int .i64 t516) ∧ w'.cell? ⟨gb529, 1, none⟩ = some (.int .i64 t517) ∧ w'.cell? ⟨gb529, 2, none⟩ = some (.slice Ao51 t518.length co51) ∧ w'.cell? ⟨gb529, 3, none⟩ = some (.slice Ao52 t521.length co52) ∧ w'.cell? ⟨gb529, 4, none⟩ = some (.slice Ao53 t524.length co53) ∧ w'.cell? ⟨gb529, 5, none⟩ = some (.bool t527)) (ds := []) #[false, false, false, false, false, false, false, false, false, false, false, false, false, false] (by kernel_rfl) rfl rfl ⟨(blk_cell BK504.out 0).trans rfl, (blk_cell BK504.out 1).trans rfl, (blk_cell BK504.out 2).trans rfl, (blk_cell BK529.out 0).trans rfl, (blk_cell BK529.out 1).trans rfl, (blk_cell BK529.out 2).trans rfl, (blk_cell BK529.out 3).trans rfl, (blk_cell BK529.out 4).trans rfl, (blk_cell BK529.out 5).trans rfl⟩ (fun hHeld => ?_); refine with_tabW tallysticklaw19_PlanMissing.tab20 tallysticklaw19_PlanMissing.bits20 (fun HT_ HW_ => ?_)
         generalize wc.drew = w60 at HO_1 HO_9 HO_530002 HO_530003 HO_530004 BK504 BK510 BK529 HB hHeld ⊢
         refine pure_ (i := 2) (N := some 69) (v := ?_) (a' := ?_) #[false, false, true, false, false, false, false, false, false, false, false, false, false, false] rfl rfl (any_of HT_.out (by kernel_rfl)) (fun _ _ _ h => h) (Or.inl ⟨by rfl, ?_⟩) ?_ ?_
         rotate_left
         ·intro w'
          go_simp
          with_reducible rfl
         rotate_left
         ·simp only [Act.put, List.setIfInBounds_toArray, List.set_cons_zero, List.set_cons_succ, i64_w, i32_w]
          rfl
         refine take_ (i := 0) (N := some 67) (v := ?_) (a' := ?_) #[true, false, true, false, false, false, false, false, false, false, false, false, false, false] rfl rfl (take_ofW HT_.out HW_.out (by kernel_rfl)) (fun _ _ _ h => h) (Or.inl ⟨by rfl, ?_⟩) hHeld ?_ ?_
         rotate_left
         ·rintro w' ⟨s0, s1, s2, s3, s4, s5, s6, s7, s8⟩
          go_simp
          with_reducible rfl
         rotate_left
         ·simp only [Act.put, List.setIfInBounds_toArray, List.set_cons_zero, List.set_cons_succ, i64_w, i32_w]
          rfl
         refine take_ (i := 4) (N := some 71) (v := ?_) (a' := ?_) #[true, false, true, false, true, false, false, false, false, false, false, false, false, false] rfl rfl (take_ofW HT_.out HW_.out (by kernel_rfl)) (fun _ _ _ h => h) (Or.inl ⟨by rfl, ?_⟩) hHeld ?_ ?_
         rotate_left
         ·rintro w' ⟨s0, s1, s2, s3, s4, s5, s6, s7, s8⟩
          go_simp
          with_reducible rfl
         rotate_left
         ·simp only [Act.put, List.setIfInBounds_toArray, List.set_cons_zero, List.set_cons_succ, i64_w, i32_w]
          rfl
         refine join_ (σ := Value × Value × Value × Value × Nat) 2 #[true, true, true, true, true, true, true, true, true, true, true, true, false, false] (fun s_ => [(68, s_.1), (70, s_.2.1), (72, s_.2.2.1), (73, s_.2.2.2.1), (74, .tuple #[.agg #[.int .i64 t542, .int .i64 t543], .bool t544]), (14, .pointer (some ⟨s_.2.2.2.2, 0, none⟩)), (66, .tuple #[.agg #[.int .i64 t542, .int .i64 t543], .bool t544]), (75, .agg #[.int .i64 t542, .int .i64 t543]), (76, .bool t544)]) (fun s_ w' => (w'.cell? ⟨gb504, 0, none⟩ = some (.int .i64 a0_0) ∧ w'.cell? ⟨gb504, 1, none⟩ = some (.int .i64 a0_1) ∧ w'.cell? ⟨gb504, 2, none⟩ = some (.int .i64 a0_2) ∧ w'.cell? ⟨gb529, 0, none⟩ = some (.int .i64 t516) ∧ w'.cell? ⟨gb529, 1, none⟩ = some (.int .i64 t517) ∧ w'.cell? ⟨gb529, 2, none⟩ = some (.slice Ao51 t518.length co51) ∧ w'.cell? ⟨gb529, 3, none⟩ = some (.slice Ao52 t521.length co52) ∧ w'.cell? ⟨gb529, 4, none⟩ = some (.slice Ao53 t524.length co53) ∧ w'.cell? ⟨gb529, 5, none⟩ = some (.bool t527)) ∧ (Kd.N k41 41 w' w.heap.size (fun k_ => (P1_ k_ ∨ w.heap.size ≤ k_) ∧ some k_ ≠ (s_.2.2.2.1 : Value).ownBlock ∧ k_ ≠ gb504 ∧ k_ ≠ gb510 ∧ k_ ≠ gb529 ∧ k_ ≠ s_.2.2.2.2) s_.2.2.1 y536) ∧ (Kd.N k41 41 w' w.heap.size (fun k_ => (P1_ k_ ∨ w.heap.size ≤ k_) ∧ k_ ≠ gb504 ∧ k_ ≠ gb510 ∧ k_ ≠ gb529 ∧ k_ ≠ s_.2.2.2.2) s_.2.2.2.1 y539) ∧ (Kd.V k41 41 w' w.heap.size (fun k_ => (P1_ k_ ∨ w.heap.size ≤ k_) ∧ some k_ ≠ (s_.2.2.1 : Value).ownBlock ∧ some k_ ≠ (s_.2.2.2.1 : Value).ownBlock ∧ k_ ≠ gb504 ∧ k_ ≠ gb510 ∧ k_ ≠ gb529 ∧ k_ ≠ s_.2.2.2.2) (.slice A1 l1.length c1) l1) ∧ (Kd.V k29 29 w' w.heap.size (fun k_ => (P1_ k_ ∨ w.heap.size ≤ k_) ∧ some k_ ≠ (s_.2.2.1 : Value).ownBlock ∧ some k_ ≠ (s_.2.2.2.1 : Value).ownBlock ∧ k_ ≠ gb504 ∧ k_ ≠ gb510 ∧ k_ ≠ gb529 ∧ k_ ≠ s_.2.2.2.2) (.slice Ao42 t512.length co42) t512) ∧ (w'.heap[gb504]? = some (.cells #[.int .i64 a0_0, .int .i64 a0_1, .int .i64 a0_2] 23 (0, 0))) ∧ (w'.heap[gb510]? = some (.cells #[.int .i64 t507, .int .i64 t508] 29 (0, 0))) ∧ (w'.heap[gb529]? = some (.cells #[.int .i64 t516, .int .i64 t517, .slice Ao51 t518.length co51, .slice Ao52 t521.length co52, .slice Ao53 t524.length co53, .bool t527] 41 (0, 0))) ∧ (w'.heap[s_.2.2.2.2]? = some (.cells #[.int .i64 0, .int .i64 0] 29 (0, 0))) ∧ (w.heap.size ≤ s_.2.2.2.2) ∧ (w.heap.size ≤ s_.2.2.2.2) ∧ (gb504 ≠ s_.2.2.2.2) ∧ (s_.2.2.2.2 ≠ gb504) ∧ (gb510 ≠ s_.2.2.2.2) ∧ (s_.2.2.2.2 ≠ gb510) ∧ (gb529 ≠ s_.2.2.2.2) ∧ (s_.2.2.2.2 ≠ gb529) ∧ (Below w.heap.size w w')) ?_ ?_
         rotate_left
         ·intro hJ1_3_5_6_7_11
          refine join_ (σ := Value × Value × Value × Value) 3 #[true, true, true, true, true, true, true, true, true, true, true, false, false, false] (fun s_ => [(68, s_.1), (70, s_.2.1), (72, s_.2.2.1), (73, s_.2.2.2), (74, .tuple #[.agg #[.int .i64 t542, .int .i64 t543], .bool t544]), (66, .tuple #[.agg #[.int .i64 t542, .int .i64 t543], .bool t544]), (75, .agg #[.int .i64 t542, .int .i64 t543]), (76, .bool t544)]) (fun s_ w' => (w'.cell? ⟨gb504, 0, none⟩ = some (.int .i64 a0_0) ∧ w'.cell? ⟨gb504, 1, none⟩ = some (.int .i64 a0_1) ∧ w'.cell? ⟨gb504, 2, none⟩ = some (.int .i64 a0_2) ∧ w'.cell? ⟨gb529, 0, none⟩ = some (.int .i64 t516) ∧ w'.cell? ⟨gb529, 1, none⟩ = some (.int .i64 t517) ∧ w'.cell? ⟨gb529, 2, none⟩ = some (.slice Ao51 t518.length co51) ∧ w'.cell? ⟨gb529, 3, none⟩ = some (.slice Ao52 t521.length co52) ∧ w'.cell? ⟨gb529, 4, none⟩ = some (.slice Ao53 t524.length co53) ∧ w'.cell? ⟨gb529, 5, none⟩ = some (.bool t527)) ∧ (Kd.N k41 41 w' w.heap.size (fun k_ => (P1_ k_ ∨ w.heap.size ≤ k_) ∧ some k_ ≠ (s_.2.2.2 : Value).ownBlock ∧ k_ ≠ gb504 ∧ k_ ≠ gb510 ∧ k_ ≠ gb529) s_.2.2.1 y536) ∧ (Kd.N k41 41 w' w.heap.size (fun k_ => (P1_ k_ ∨ w.heap.size ≤ k_) ∧ k_ ≠ gb504 ∧ k_ ≠ gb510 ∧ k_ ≠ gb529) s_.2.2.2 y539) ∧ (Kd.V k41 41 w' w.heap.size (fun k_ => (P1_ k_ ∨ w.heap.size ≤ k_) ∧ some k_ ≠ (s_.2.2.1 : Value).ownBlock ∧ some k_ ≠ (s_.2.2.2 : Value).ownBlock ∧ k_ ≠ gb504 ∧ k_ ≠ gb510 ∧ k_ ≠ gb529) (.slice A1 l1.length c1) l1) ∧ (Kd.V k29 29 w' w.heap.size (fun k_ => (P1_ k_ ∨ w.heap.size ≤ k_) ∧ some k_ ≠ (s_.2.2.1 : Value).ownBlock ∧ some k_ ≠ (s_.2.2.2 : Value).ownBlock ∧ k_ ≠ gb504 ∧ k_ ≠ gb510 ∧ k_ ≠ gb529) (.slice Ao42 t512.length co42) t512) ∧ (w'.heap[gb504]? = some (.cells #[.int .i64 a0_0, .int .i64 a0_1, .int .i64 a0_2] 23 (0, 0))) ∧ (w'.heap[gb510]? = some (.cells #[.int .i64 t507, .int .i64 t508] 29 (0, 0))) ∧ (w'.heap[gb529]? = some (.cells #[.int .i64 t516, .int .i64 t517, .slice Ao51 t518.length co51, .slice Ao52 t521.length co52, .slice Ao53 t524.length co53, .bool t527] 41 (0, 0))) ∧ (Below w.heap.size w w')) ?_ ?_
          rotate_left
          ·intro hJ1_3_5_6_7
           refine join_ (σ := Value × Value × Value × Value × Nat) 6 #[true, true, true, true, true, true, true, false, false, false, false, true, false, false] (fun s_ => [(68, s_.1), (70, s_.2.1), (72, s_.2.2.1), (73, s_.2.2.2.1), (14, .pointer (some ⟨s_.2.2.2.2, 0, none⟩))]) (fun s_ w' => (w'.cell? ⟨gb504, 0, none⟩ = some (.int .i64 a0_0) ∧ w'.cell? ⟨gb504, 1, none⟩ = some (.int .i64 a0_1) ∧ w'.cell? ⟨gb504, 2, none⟩ = some (.int .i64 a0_2) ∧ w'.cell? ⟨gb529, 0, none⟩ = some (.int .i64 t516) ∧ w'.cell? ⟨gb529, 1, none⟩ = some (.int .i64 t517) ∧ w'.cell? ⟨gb529, 2, none⟩ = some (.slice Ao51 t518.length co51) ∧ w'.cell? ⟨gb529, 3, none⟩ = some (.slice Ao52 t521.length co52) ∧ w'.cell? ⟨gb529, 4, none⟩ = some (.slice Ao53 t524.length co53) ∧ w'.cell? ⟨gb529, 5, none⟩ = some (.bool t527)) ∧ (Kd.N k41 41 w' w.heap.size (fun k_ => (P1_ k_ ∨ w.heap.size ≤ k_) ∧ some k_ ≠ (s_.2.2.2.1 : Value).ownBlock ∧ k_ ≠ gb504 ∧ k_ ≠ gb510 ∧ k_ ≠ gb529 ∧ k_ ≠ s_.2.2.2.2) s_.2.2.1 y536) ∧ (Kd.N k41 41 w' w.heap.size (fun k_ => (P1_ k_ ∨ w.heap.size ≤ k_) ∧ k_ ≠ gb504 ∧ k_ ≠ gb510 ∧ k_ ≠ gb529 ∧ k_ ≠ s_.2.2.2.2) s_.2.2.2.1 y539) ∧ (Kd.V k41 41 w' w.heap.size (fun k_ => (P1_ k_ ∨ w.heap.size ≤ k_) ∧ some k_ ≠ (s_.2.2.1 : Value).ownBlock ∧ some k_ ≠ (s_.2.2.2.1 : Value).ownBlock ∧ k_ ≠ gb504 ∧ k_ ≠ gb510 ∧ k_ ≠ gb529 ∧ k_ ≠ s_.2.2.2.2) (.slice A1 l1.length c1) l1) ∧ (Kd.V k29 29 w' w.heap.size (fun k_ => (P1_ k_ ∨ w.heap.size ≤ k_) ∧ some k_ ≠ (s_.2.2.1 : Value).ownBlock ∧ some k_ ≠ (s_.2.2.2.1 : Value).ownBlock ∧ k_ ≠ gb504 ∧ k_ ≠ gb510 ∧ k_ ≠ gb529 ∧ k_ ≠ s_.2.2.2.2) (.slice Ao42 t512.length co42) t512) ∧ (w'.heap[gb504]? = some (.cells #[.int .i64 a0_0, .int .i64 a0_1, .int .i64 a0_2] 23 (0, 0))) ∧ (w'.heap[gb510]? = some (.cells #[.int .i64 t507, .int .i64 t508] 29 (0, 0))) ∧ (w'.heap[gb529]? = some (.cells #[.int .i64 t516, .int .i64 t517, .slice Ao51 t518.length co51, .slice Ao52 t521.length co52, .slice Ao53 t524.length co53, .bool t527] 41 (0, 0))) ∧ (w'.heap[s_.2.2.2.2]? = some (.cells #[.int .i64 0, .int .i64 0] 29 (0, 0))) ∧ (w.heap.size ≤ s_.2.2.2.2) ∧ (w.heap.size ≤ s_.2.2.2.2) ∧ (gb504 ≠ s_.2.2.2.2) ∧ (s_.2.2.2.2 ≠ gb504) ∧ (gb510 ≠ s_.2.2.2.2) ∧ (s_.2.2.2.2 ≠ gb510) ∧ (gb529 ≠ s_.2.2.2.2) ∧ (s_.2.2.2.2 ≠ gb529) ∧ (Below w.heap.size w w')) ?_ ?_
           rotate_left
           ·intro hJ1_3_5_6_11
            refine join_ (σ := Value × Value × Value × Value) 7 #[true, true, true, true, true, true, true, false, false, false, false, false, false, false] (fun s_ => [(68, s_.1), (70, s_.2.1), (72, s_.2.2.1), (73, s_.2.2.2)]) (fun s_ w' => (w'.cell? ⟨gb504, 0, none⟩ = some (.int .i64 a0_0) ∧ w'.cell? ⟨gb504, 1, none⟩ = some (.int .i64 a0_1) ∧ w'.cell? ⟨gb504, 2, none⟩ = some (.int .i64 a0_2) ∧ w'.cell? ⟨gb529, 0, none⟩ = some (.int .i64 t516) ∧ w'.cell? ⟨gb529, 1, none⟩ = some (.int .i64 t517) ∧ w'.cell? ⟨gb529, 2, none⟩ = some (.slice Ao51 t518.length co51) ∧ w'.cell? ⟨gb529, 3, none⟩ = some (.slice Ao52 t521.length co52) ∧ w'.cell? ⟨gb529, 4, none⟩ = some (.slice Ao53 t524.length co53) ∧ w'.cell? ⟨gb529, 5, none⟩ = some (.bool t527)) ∧ (Kd.N k41 41 w' w.heap.size (fun k_ => (P1_ k_ ∨ w.heap.size ≤ k_) ∧ some k_ ≠ (s_.2.2.2 : Value).ownBlock ∧ k_ ≠ gb504 ∧ k_ ≠ gb510 ∧ k_ ≠ gb529) s_.2.2.1 y536) ∧ (Kd.N k41 41 w' w.heap.size (fun k_ => (P1_ k_ ∨ w.heap.size ≤ k_) ∧ k_ ≠ gb504 ∧ k_ ≠ gb510 ∧ k_ ≠ gb529) s_.2.2.2 y539) ∧ (Kd.V k41 41 w' w.heap.size (fun k_ => (P1_ k_ ∨ w.heap.size ≤ k_) ∧ some k_ ≠ (s_.2.2.1 : Value).ownBlock ∧ some k_ ≠ (s_.2.2.2 : Value).ownBlock ∧ k_ ≠ gb504 ∧ k_ ≠ gb510 ∧ k_ ≠ gb529) (.slice A1 l1.length c1) l1) ∧ (Kd.V k29 29 w' w.heap.size (fun k_ => (P1_ k_ ∨ w.heap.size ≤ k_) ∧ some k_ ≠ (s_.2.2.1 : Value).ownBlock ∧ some k_ ≠ (s_.2.2.2 : Value).ownBlock ∧ k_ ≠ gb504 ∧ k_ ≠ gb510 ∧ k_ ≠ gb529) (.slice Ao42 t512.length co42) t512) ∧ (w'.heap[gb504]? = some (.cells #[.int .i64 a0_0, .int .i64 a0_1, .int .i64 a0_2] 23 (0, 0))) ∧ (w'.heap[gb510]? = some (.cells #[.int .i64 t507, .int .i64 t508] 29 (0, 0))) ∧ (w'.heap[gb529]? = some (.cells #[.int .i64 t516, .int .i64 t517, .slice Ao51 t518.length co51, .slice Ao52 t521.length co52, .slice Ao53 t524.length co53, .bool t527] 41 (0, 0))) ∧ (Below w.heap.size w w')) ?_ ?_
            rotate_left
            ·intro hJ1_3_5_6
             refine join_ (σ := Value × Value × Value × Nat) 7 #[true, true, true, true, true, true, false, false, false, false, false, true, false, false] (fun s_ => [(68, s_.1), (70, s_.2.1), (72, s_.2.2.1), (14, .pointer (some ⟨s_.2.2.2, 0, none⟩))]) (fun s_ w' => (w'.cell? ⟨gb504, 0, none⟩ = some (.int .i64 a0_0) ∧ w'.cell? ⟨gb504, 1, none⟩ = some (.int .i64 a0_1) ∧ w'.cell? ⟨gb504, 2, none⟩ = some (.int .i64 a0_2) ∧ w'.cell? ⟨gb529, 0, none⟩ = some (.int .i64 t516) ∧ w'.cell? ⟨gb529, 1, none⟩ = some (.int .i64 t517) ∧ w'.cell? ⟨gb529, 2, none⟩ = some (.slice Ao51 t518.length co51) ∧ w'.cell? ⟨gb529, 3, none⟩ = some (.slice Ao52 t521.length co52) ∧ w'.cell? ⟨gb529, 4, none⟩ = some (.slice Ao53 t524.length co53) ∧ w'.cell? ⟨gb529, 5, none⟩ = some (.bool t527)) ∧ (Kd.N k41 41 w' w.heap.size (fun k_ => (P1_ k_ ∨ w.heap.size ≤ k_) ∧ some k_ ≠ (s_.2.2.1 : Value).ownBlock ∧ k_ ≠ gb504 ∧ k_ ≠ gb510 ∧ k_ ≠ gb529 ∧ k_ ≠ s_.2.2.2) s_.2.1 y533) ∧ (Kd.N k41 41 w' w.heap.size (fun k_ => (P1_ k_ ∨ w.heap.size ≤ k_) ∧ some k_ ≠ (s_.2.1 : Value).ownBlock ∧ k_ ≠ gb504 ∧ k_ ≠ gb510 ∧ k_ ≠ gb529 ∧ k_ ≠ s_.2.2.2) s_.2.2.1 y536) ∧ (Kd.V k41 41 w' w.heap.size (fun k_ => (P1_ k_ ∨ w.heap.size ≤ k_) ∧ some k_ ≠ (s_.2.1 : Value).ownBlock ∧ some k_ ≠ (s_.2.2.1 : Value).ownBlock ∧ k_ ≠ gb504 ∧ k_ ≠ gb510 ∧ k_ ≠ gb529 ∧ k_ ≠ s_.2.2.2) (.slice A1 l1.length c1) l1) ∧ (Kd.V k29 29 w' w.heap.size (fun k_ => (P1_ k_ ∨ w.heap.size ≤ k_) ∧ some k_ ≠ (s_.2.1 : Value).ownBlock ∧ some k_ ≠ (s_.2.2.1 : Value).ownBlock ∧ k_ ≠ gb504 ∧ k_ ≠ gb510 ∧ k_ ≠ gb529 ∧ k_ ≠ s_.2.2.2) (.slice Ao42 t512.length co42) t512) ∧ (w'.heap[gb504]? = some (.cells #[.int .i64 a0_0, .int .i64 a0_1, .int .i64 a0_2] 23 (0, 0))) ∧ (w'.heap[gb510]? = some (.cells #[.int .i64 t507, .int .i64 t508] 29 (0, 0))) ∧ (w'.heap[gb529]? = some (.cells #[.int .i64 t516, .int .i64 t517, .slice Ao51 t518.length co51, .slice Ao52 t521.length co52, .slice Ao53 t524.length co53, .bool t527] 41 (0, 0))) ∧ (w'.heap[s_.2.2.2]? = some (.cells #[.int .i64 0, .int .i64 0] 29 (0, 0))) ∧ (w.heap.size ≤ s_.2.2.2) ∧ (w.heap.size ≤ s_.2.2.2) ∧ (gb504 ≠ s_.2.2.2) ∧ (s_.2.2.2 ≠ gb504) ∧ (gb510 ≠ s_.2.2.2) ∧ (s_.2.2.2 ≠ gb510) ∧ (gb529 ≠ s_.2.2.2) ∧ (s_.2.2.2 ≠ gb529) ∧ (Below w.heap.size w w')) ?_ ?_
             rotate_left
             ·intro hJ1_3_5_11
              refine join_ (σ := Value × Value × Value) 8 #[true, true, true, true, true, true, false, false, false, false, false, false, false, false] (fun s_ => [(68, s_.1), (70, s_.2.1), (72, s_.2.2)]) (fun s_ w' => (w'.cell? ⟨gb504, 0, none⟩ = some (.int .i64 a0_0) ∧ w'.cell? ⟨gb504, 1, none⟩ = some (.int .i64 a0_1) ∧ w'.cell? ⟨gb504, 2, none⟩ = some (.int .i64 a0_2) ∧ w'.cell? ⟨gb529, 0, none⟩ = some (.int .i64 t516) ∧ w'.cell? ⟨gb529, 1, none⟩ = some (.int .i64 t517) ∧ w'.cell? ⟨gb529, 2, none⟩ = some (.slice Ao51 t518.length co51) ∧ w'.cell? ⟨gb529, 3, none⟩ = some (.slice Ao52 t521.length co52) ∧ w'.cell? ⟨gb529, 4, none⟩ = some (.slice Ao53 t524.length co53) ∧ w'.cell? ⟨gb529, 5, none⟩ = some (.bool t527)) ∧ (Kd.N k41 41 w' w.heap.size (fun k_ => (P1_ k_ ∨ w.heap.size ≤ k_) ∧ some k_ ≠ (s_.2.2 : Value).ownBlock ∧ k_ ≠ gb504 ∧ k_ ≠ gb510 ∧ k_ ≠ gb529) s_.2.1 y533) ∧ (Kd.N k41 41 w' w.heap.size (fun k_ => (P1_ k_ ∨ w.heap.size ≤ k_) ∧ some k_ ≠ (s_.2.1 : Value).ownBlock ∧ k_ ≠ gb504 ∧ k_ ≠ gb510 ∧ k_ ≠ gb529) s_.2.2 y536) ∧ (Kd.V k41 41 w' w.heap.size (fun k_ => (P1_ k_ ∨ w.heap.size ≤ k_) ∧ some k_ ≠ (s_.2.1 : Value).ownBlock ∧ some k_ ≠ (s_.2.2 : Value).ownBlock ∧ k_ ≠ gb504 ∧ k_ ≠ gb510 ∧ k_ ≠ gb529) (.slice A1 l1.length c1) l1) ∧ (Kd.V k29 29 w' w.heap.size (fun k_ => (P1_ k_ ∨ w.heap.size ≤ k_) ∧ some k_ ≠ (s_.2.1 : Value).ownBlock ∧ some k_ ≠ (s_.2.2 : Value).ownBlock ∧ k_ ≠ gb504 ∧ k_ ≠ gb510 ∧ k_ ≠ gb529) (.slice Ao42 t512.length co42) t512) ∧ (w'.heap[gb504]? = some (.cells #[.int .i64 a0_0, .int .i64 a0_1, .int .i64 a0_2] 23 (0, 0))) ∧ (w'.heap[gb510]? = some (.cells #[.int .i64 t507, .int .i64 t508] 29 (0, 0))) ∧ (w'.heap[gb529]? = some (.cells #[.int .i64 t516, .int .i64 t517, .slice Ao51 t518.length co51, .slice Ao52 t521.length co52, .slice Ao53 t524.length co53, .bool t527] 41 (0, 0))) ∧ (Below w.heap.size w w')) ?_ ?_
              rotate_left
              ·intro hJ1_3_5
               refine join_ (σ := Value × Value × Nat) 8 #[true, true, true, true, true, false, false, false, false, false, false, true, false, false] (fun s_ => [(68, s_.1), (70, s_.2.1), (14, .pointer (some ⟨s_.2.2, 0, none⟩))]) (fun s_ w' => (w'.cell? ⟨gb504, 0, none⟩ = some (.int .i64 a0_0) ∧ w'.cell? ⟨gb504, 1, none⟩ = some (.int .i64 a0_1) ∧ w'.cell? ⟨gb504, 2, none⟩ = some (.int .i64 a0_2) ∧ w'.cell? ⟨gb529, 0, none⟩ = some (.int .i64 t516) ∧ w'.cell? ⟨gb529, 1, none⟩ = some (.int .i64 t517) ∧ w'.cell? ⟨gb529, 2, none⟩ = some (.slice Ao51 t518.length co51) ∧ w'.cell? ⟨gb529, 3, none⟩ = some (.slice Ao52 t521.length co52) ∧ w'.cell? ⟨gb529, 4, none⟩ = some (.slice Ao53 t524.length co53) ∧ w'.cell? ⟨gb529, 5, none⟩ = some (.bool t527)) ∧ (Kd.N k41 41 w' w.heap.size (fun k_ => (P1_ k_ ∨ w.heap.size ≤ k_) ∧ some k_ ≠ (.slice Ao51 t518.length co51 : Value).ownBlock ∧ some k_ ≠ (.slice Ao52 t521.length co52 : Value).ownBlock ∧ some k_ ≠ (.slice Ao53 t524.length co53 : Value).ownBlock ∧ k_ ≠ gb504 ∧ k_ ≠ gb510 ∧ k_ ≠ gb529 ∧ k_ ≠ s_.2.2) s_.2.1 y533) ∧ (Kd.V k41 41 w' w.heap.size (fun k_ => (P1_ k_ ∨ w.heap.size ≤ k_) ∧ some k_ ≠ (s_.2.1 : Value).ownBlock ∧ some k_ ≠ (.slice Ao51 t518.length co51 : Value).ownBlock ∧ some k_ ≠ (.slice Ao52 t521.length co52 : Value).ownBlock ∧ some k_ ≠ (.slice Ao53 t524.length co53 : Value).ownBlock ∧ k_ ≠ gb504 ∧ k_ ≠ gb510 ∧ k_ ≠ gb529 ∧ k_ ≠ s_.2.2) (.slice A1 l1.length c1) l1) ∧ (Kd.R (Kd.int .u64) 57 w' w.heap.size (fun k_ => (w.heap.size ≤ k_) ∧ some k_ ≠ (.slice Ao52 t521.length co52 : Value).ownBlock ∧ some k_ ≠ (.slice Ao53 t524.length co53 : Value).ownBlock) (.slice Ao51 t518.length co51) t518) ∧ (Kd.R (Kd.int .u64) 57 w' w.heap.size (fun k_ => (w.heap.size ≤ k_) ∧ some k_ ≠ (.slice Ao51 t518.length co51 : Value).ownBlock ∧ some k_ ≠ (.slice Ao53 t524.length co53 : Value).ownBlock) (.slice Ao52 t521.length co52) t521) ∧ (Kd.R (Kd.int .u64) 57 w' w.heap.size (fun k_ => (w.heap.size ≤ k_) ∧ some k_ ≠ (.slice Ao51 t518.length co51 : Value).ownBlock ∧ some k_ ≠ (.slice Ao52 t521.length co52 : Value).ownBlock) (.slice Ao53 t524.length co53) t524) ∧ (Kd.V k29 29 w' w.heap.size (fun k_ => (P1_ k_ ∨ w.heap.size ≤ k_) ∧ some k_ ≠ (s_.2.1 : Value).ownBlock ∧ some k_ ≠ (.slice Ao51 t518.length co51 : Value).ownBlock ∧ some k_ ≠ (.slice Ao52 t521.length co52 : Value).ownBlock ∧ some k_ ≠ (.slice Ao53 t524.length co53 : Value).ownBlock ∧ k_ ≠ gb504 ∧ k_ ≠ gb510 ∧ k_ ≠ gb529 ∧ k_ ≠ s_.2.2) (.slice Ao42 t512.length co42) t512) ∧ (w'.heap[gb504]? = some (.cells #[.int .i64 a0_0, .int .i64 a0_1, .int .i64 a0_2] 23 (0, 0))) ∧ (w'.heap[gb510]? = some (.cells #[.int .i64 t507, .int .i64 t508] 29 (0, 0))) ∧ (w'.heap[gb529]? = some (.cells #[.int .i64 t516, .int .i64 t517, .slice Ao51 t518.length co51, .slice Ao52 t521.length co52, .slice Ao53 t524.length co53, .bool t527] 41 (0, 0))) ∧ (w'.heap[s_.2.2]? = some (.cells #[.int .i64 0, .int .i64 0] 29 (0, 0))) ∧ (w.heap.size ≤ s_.2.2) ∧ (w.heap.size ≤ s_.2.2) ∧ (gb504 ≠ s_.2.2) ∧ (s_.2.2 ≠ gb504) ∧ (gb510 ≠ s_.2.2) ∧ (s_.2.2 ≠ gb510) ∧ (gb529 ≠ s_.2.2) ∧ (s_.2.2 ≠ gb529) ∧ (Below w.heap.size w w')) ?_ ?_
               rotate_left
               ·intro hJ1_3_11
                refine join_ (σ := Value × Value × Nat) 8 #[true, true, true, false, true, true, false, false, false, false, false, true, false, false] (fun s_ => [(68, s_.1), (72, s_.2.1), (14, .pointer (some ⟨s_.2.2, 0, none⟩))]) (fun s_ w' => (w'.cell? ⟨gb504, 0, none⟩ = some (.int .i64 a0_0) ∧ w'.cell? ⟨gb504, 1, none⟩ = some (.int .i64 a0_1) ∧ w'.cell? ⟨gb504, 2, none⟩ = some (.int .i64 a0_2) ∧ w'.cell? ⟨gb529, 0, none⟩ = some (.int .i64 t516) ∧ w'.cell? ⟨gb529, 1, none⟩ = some (.int .i64 t517) ∧ w'.cell? ⟨gb529, 2, none⟩ = some (.slice Ao51 t518.length co51) ∧ w'.cell? ⟨gb529, 3, none⟩ = some (.slice Ao52 t521.length co52) ∧ w'.cell? ⟨gb529, 4, none⟩ = some (.slice Ao53 t524.length co53) ∧ w'.cell? ⟨gb529, 5, none⟩ = some (.bool t527)) ∧ (Kd.N k41 41 w' w.heap.size (fun k_ => (P1_ k_ ∨ w.heap.size ≤ k_) ∧ some k_ ≠ (s_.2.1 : Value).ownBlock ∧ k_ ≠ gb504 ∧ k_ ≠ gb510 ∧ k_ ≠ gb529 ∧ k_ ≠ s_.2.2) s_.1 y530) ∧ (Kd.N k41 41 w' w.heap.size (fun k_ => (P1_ k_ ∨ w.heap.size ≤ k_) ∧ some k_ ≠ (s_.1 : Value).ownBlock ∧ k_ ≠ gb504 ∧ k_ ≠ gb510 ∧ k_ ≠ gb529 ∧ k_ ≠ s_.2.2) s_.2.1 y536) ∧ (Kd.V k41 41 w' w.heap.size (fun k_ => (P1_ k_ ∨ w.heap.size ≤ k_) ∧ some k_ ≠ (s_.1 : Value).ownBlock ∧ some k_ ≠ (s_.2.1 : Value).ownBlock ∧ k_ ≠ gb504 ∧ k_ ≠ gb510 ∧ k_ ≠ gb529 ∧ k_ ≠ s_.2.2) (.slice A1 l1.length c1) l1) ∧ (Kd.V k29 29 w' w.heap.size (fun k_ => (P1_ k_ ∨ w.heap.size ≤ k_) ∧ some k_ ≠ (s_.1 : Value).ownBlock ∧ some k_ ≠ (s_.2.1 : Value).ownBlock ∧ k_ ≠ gb504 ∧ k_ ≠ gb510 ∧ k_ ≠ gb529 ∧ k_ ≠ s_.2.2) (.slice Ao42 t512.length co42) t512) ∧ (w'.heap[gb504]? = some (.cells #[.int .i64 a0_0, .int .i64 a0_1, .int .i64 a0_2] 23 (0, 0))) ∧ (w'.heap[gb510]? = some (.cells #[.int .i64 t507, .int .i64 t508] 29 (0, 0))) ∧ (w'.heap[gb529]? = some (.cells #[.int .i64 t516, .int .i64 t517, .slice Ao51 t518.length co51, .slice Ao52 t521.length co52, .slice Ao53 t524.length co53, .bool t527] 41 (0, 0))) ∧ (w'.heap[s_.2.2]? = some (.cells #[.int .i64 0, .int .i64 0] 29 (0, 0))) ∧ (w.heap.size ≤ s_.2.2) ∧ (w.heap.size ≤ s_.2.2) ∧ (gb504 ≠ s_.2.2) ∧ (s_.2.2 ≠ gb504) ∧ (gb510 ≠ s_.2.2) ∧ (s_.2.2 ≠ gb510) ∧ (gb529 ≠ s_.2.2) ∧ (s_.2.2 ≠ gb529) ∧ (Below w.heap.size w w')) ?_ ?_
                rotate_left
                ·intro hJ1_5_11
                 refine join_ (σ := Value × Value) 9 #[true, true, true, true, true, false, false, false, false, false, false, false, false, false] (fun s_ => [(68, s_.1), (70, s_.2)]) (fun s_ w' => (w'.cell? ⟨gb504, 0, none⟩ = some (.int .i64 a0_0) ∧ w'.cell? ⟨gb504, 1, none⟩ = some (.int .i64 a0_1) ∧ w'.cell? ⟨gb504, 2, none⟩ = some (.int .i64 a0_2) ∧ w'.cell? ⟨gb529, 0, none⟩ = some (.int .i64 t516) ∧ w'.cell? ⟨gb529, 1, none⟩ = some (.int .i64 t517) ∧ w'.cell? ⟨gb529, 2, none⟩ = some (.slice Ao51 t518.length co51) ∧ w'.cell? ⟨gb529, 3, none⟩ = some (.slice Ao52 t521.length co52) ∧ w'.cell? ⟨gb529, 4, none⟩ = some (.slice Ao53 t524.length co53) ∧ w'.cell? ⟨gb529, 5, none⟩ = some (.bool t527)) ∧ (Kd.N k41 41 w' w.heap.size (fun k_ => (P1_ k_ ∨ w.heap.size ≤ k_) ∧ some k_ ≠ (.slice Ao51 t518.length co51 : Value).ownBlock ∧ some k_ ≠ (.slice Ao52 t521.length co52 : Value).ownBlock ∧ some k_ ≠ (.slice Ao53 t524.length co53 : Value).ownBlock ∧ k_ ≠ gb504 ∧ k_ ≠ gb510 ∧ k_ ≠ gb529) s_.2 y533) ∧ (Kd.V k41 41 w' w.heap.size (fun k_ => (P1_ k_ ∨ w.heap.size ≤ k_) ∧ some k_ ≠ (s_.2 : Value).ownBlock ∧ some k_ ≠ (.slice Ao51 t518.length co51 : Value).ownBlock ∧ some k_ ≠ (.slice Ao52 t521.length co52 : Value).ownBlock ∧ some k_ ≠ (.slice Ao53 t524.length co53 : Value).ownBlock ∧ k_ ≠ gb504 ∧ k_ ≠ gb510 ∧ k_ ≠ gb529) (.slice A1 l1.length c1) l1) ∧ (Kd.R (Kd.int .u64) 57 w' w.heap.size (fun k_ => (w.heap.size ≤ k_) ∧ some k_ ≠ (.slice Ao52 t521.length co52 : Value).ownBlock ∧ some k_ ≠ (.slice Ao53 t524.length co53 : Value).ownBlock) (.slice Ao51 t518.length co51) t518) ∧ (Kd.R (Kd.int .u64) 57 w' w.heap.size (fun k_ => (w.heap.size ≤ k_) ∧ some k_ ≠ (.slice Ao51 t518.length co51 : Value).ownBlock ∧ some k_ ≠ (.slice Ao53 t524.length co53 : Value).ownBlock) (.slice Ao52 t521.length co52) t521) ∧ (Kd.R (Kd.int .u64) 57 w' w.heap.size (fun k_ => (w.heap.size ≤ k_) ∧ some k_ ≠ (.slice Ao51 t518.length co51 : Value).ownBlock ∧ some k_ ≠ (.slice Ao52 t521.length co52 : Value).ownBlock) (.slice Ao53 t524.length co53) t524) ∧ (Kd.V k29 29 w' w.heap.size (fun k_ => (P1_ k_ ∨ w.heap.size ≤ k_) ∧ some k_ ≠ (s_.2 : Value).ownBlock ∧ some k_ ≠ (.slice Ao51 t518.length co51 : Value).ownBlock ∧ some k_ ≠ (.slice Ao52 t521.length co52 : Value).ownBlock ∧ some k_ ≠ (.slice Ao53 t524.length co53 : Value).ownBlock ∧ k_ ≠ gb504 ∧ k_ ≠ gb510 ∧ k_ ≠ gb529) (.slice Ao42 t512.length co42) t512) ∧ (w'.heap[gb504]? = some (.cells #[.int .i64 a0_0, .int .i64 a0_1, .int .i64 a0_2] 23 (0, 0))) ∧ (w'.heap[gb510]? = some (.cells #[.int .i64 t507, .int .i64 t508] 29 (0, 0))) ∧ (w'.heap[gb529]? = some (.cells #[.int .i64 t516, .int .i64 t517, .slice Ao51 t518.length co51, .slice Ao52 t521.length co52, .slice Ao53 t524.length co53, .bool t527] 41 (0, 0))) ∧ (Below w.heap.size w w')) ?_ ?_
                 rotate_left
                 ·intro hJ1_3
                  refine join_ (σ := Value × Value) 9 #[true, true, true, false, true, true, false, false, false, false, false, false, false, false] (fun s_ => [(68, s_.1), (72, s_.2)]) (fun s_ w' => (w'.cell? ⟨gb504, 0, none⟩ = some (.int .i64 a0_0) ∧ w'.cell? ⟨gb504, 1, none⟩ = some (.int .i64 a0_1) ∧ w'.cell? ⟨gb504, 2, none⟩ = some (.int .i64 a0_2) ∧ w'.cell? ⟨gb529, 0, none⟩ = some (.int .i64 t516) ∧ w'.cell? ⟨gb529, 1, none⟩ = some (.int .i64 t517) ∧ w'.cell? ⟨gb529, 2, none⟩ = some (.slice Ao51 t518.length co51) ∧ w'.cell? ⟨gb529, 3, none⟩ = some (.slice Ao52 t521.length co52) ∧ w'.cell? ⟨gb529, 4, none⟩ = some (.slice Ao53 t524.length co53) ∧ w'.cell? ⟨gb529, 5, none⟩ = some (.bool t527)) ∧ (Kd.N k41 41 w' w.heap.size (fun k_ => (P1_ k_ ∨ w.heap.size ≤ k_) ∧ some k_ ≠ (s_.2 : Value).ownBlock ∧ k_ ≠ gb504 ∧ k_ ≠ gb510 ∧ k_ ≠ gb529) s_.1 y530) ∧ (Kd.N k41 41 w' w.heap.size (fun k_ => (P1_ k_ ∨ w.heap.size ≤ k_) ∧ some k_ ≠ (s_.1 : Value).ownBlock ∧ k_ ≠ gb504 ∧ k_ ≠ gb510 ∧ k_ ≠ gb529) s_.2 y536) ∧ (Kd.V k41 41 w' w.heap.size (fun k_ => (P1_ k_ ∨ w.heap.size ≤ k_) ∧ some k_ ≠ (s_.1 : Value).ownBlock ∧ some k_ ≠ (s_.2 : Value).ownBlock ∧ k_ ≠ gb504 ∧ k_ ≠ gb510 ∧ k_ ≠ gb529) (.slice A1 l1.length c1) l1) ∧ (Kd.V k29 29 w' w.heap.size (fun k_ => (P1_ k_ ∨ w.heap.size ≤ k_) ∧ some k_ ≠ (s_.1 : Value).ownBlock ∧ some k_ ≠ (s_.2 : Value).ownBlock ∧ k_ ≠ gb504 ∧ k_ ≠ gb510 ∧ k_ ≠ gb529) (.slice Ao42 t512.length co42) t512) ∧ (w'.heap[gb504]? = some (.cells #[.int .i64 a0_0, .int .i64 a0_1, .int .i64 a0_2] 23 (0, 0))) ∧ (w'.heap[gb510]? = some (.cells #[.int .i64 t507, .int .i64 t508] 29 (0, 0))) ∧ (w'.heap[gb529]? = some (.cells #[.int .i64 t516, .int .i64 t517, .slice Ao51 t518.length co51, .slice Ao52 t521.length co52, .slice Ao53 t524.length co53, .bool t527] 41 (0, 0))) ∧ (Below w.heap.size w w')) ?_ ?_
                  rotate_left
                  ·intro hJ1_5
                   refine join_ (σ := Value × Nat) 9 #[true, true, true, false, true, false, false, false, false, false, false, true, false, false] (fun s_ => [(68, s_.1), (14, .pointer (some ⟨s_.2, 0, none⟩))]) (fun s_ w' => (w'.cell? ⟨gb504, 0, none⟩ = some (.int .i64 a0_0) ∧ w'.cell? ⟨gb504, 1, none⟩ = some (.int .i64 a0_1) ∧ w'.cell? ⟨gb504, 2, none⟩ = some (.int .i64 a0_2) ∧ w'.cell? ⟨gb529, 0, none⟩ = some (.int .i64 t516) ∧ w'.cell? ⟨gb529, 1, none⟩ = some (.int .i64 t517) ∧ w'.cell? ⟨gb529, 2, none⟩ = some (.slice Ao51 t518.length co51) ∧ w'.cell? ⟨gb529, 3, none⟩ = some (.slice Ao52 t521.length co52) ∧ w'.cell? ⟨gb529, 4, none⟩ = some (.slice Ao53 t524.length co53) ∧ w'.cell? ⟨gb529, 5, none⟩ = some (.bool t527)) ∧ (Kd.N k41 41 w' w.heap.size (fun k_ => (P1_ k_ ∨ w.heap.size ≤ k_) ∧ some k_ ≠ (.slice Ao51 t518.length co51 : Value).ownBlock ∧ some k_ ≠ (.slice Ao52 t521.length co52 : Value).ownBlock ∧ some k_ ≠ (.slice Ao53 t524.length co53 : Value).ownBlock ∧ k_ ≠ gb504 ∧ k_ ≠ gb510 ∧ k_ ≠ gb529 ∧ k_ ≠ s_.2) s_.1 y530) ∧ (Kd.V k41 41 w' w.heap.size (fun k_ => (P1_ k_ ∨ w.heap.size ≤ k_) ∧ some k_ ≠ (s_.1 : Value).ownBlock ∧ some k_ ≠ (.slice Ao51 t518.length co51 : Value).ownBlock ∧ some k_ ≠ (.slice Ao52 t521.length co52 : Value).ownBlock ∧ some k_ ≠ (.slice Ao53 t524.length co53 : Value).ownBlock ∧ k_ ≠ gb504 ∧ k_ ≠ gb510 ∧ k_ ≠ gb529 ∧ k_ ≠ s_.2) (.slice A1 l1.length c1) l1) ∧ (Kd.R (Kd.int .u64) 57 w' w.heap.size (fun k_ => (w.heap.size ≤ k_) ∧ some k_ ≠ (.slice Ao52 t521.length co52 : Value).ownBlock ∧ some k_ ≠ (.slice Ao53 t524.length co53 : Value).ownBlock) (.slice Ao51 t518.length co51) t518) ∧ (Kd.R (Kd.int .u64) 57 w' w.heap.size (fun k_ => (w.heap.size ≤ k_) ∧ some k_ ≠ (.slice Ao51 t518.length co51 : Value).ownBlock ∧ some k_ ≠ (.slice Ao53 t524.length co53 : Value).ownBlock) (.slice Ao52 t521.length co52) t521) ∧ (Kd.R (Kd.int .u64) 57 w' w.heap.size (fun k_ => (w.heap.size ≤ k_) ∧ some k_ ≠ (.slice Ao51 t518.length co51 : Value).ownBlock ∧ some k_ ≠ (.slice Ao52 t521.length co52 : Value).ownBlock) (.slice Ao53 t524.length co53) t524) ∧ (Kd.V k29 29 w' w.heap.size (fun k_ => (P1_ k_ ∨ w.heap.size ≤ k_) ∧ some k_ ≠ (s_.1 : Value).ownBlock ∧ some k_ ≠ (.slice Ao51 t518.length co51 : Value).ownBlock ∧ some k_ ≠ (.slice Ao52 t521.length co52 : Value).ownBlock ∧ some k_ ≠ (.slice Ao53 t524.length co53 : Value).ownBlock ∧ k_ ≠ gb504 ∧ k_ ≠ gb510 ∧ k_ ≠ gb529 ∧ k_ ≠ s_.2) (.slice Ao42 t512.length co42) t512) ∧ (w'.heap[gb504]? = some (.cells #[.int .i64 a0_0, .int .i64 a0_1, .int .i64 a0_2] 23 (0, 0))) ∧ (w'.heap[gb510]? = some (.cells #[.int .i64 t507, .int .i64 t508] 29 (0, 0))) ∧ (w'.heap[gb529]? = some (.cells #[.int .i64 t516, .int .i64 t517, .slice Ao51 t518.length co51, .slice Ao52 t521.length co52, .slice Ao53 t524.length co53, .bool t527] 41 (0, 0))) ∧ (w'.heap[s_.2]? = some (.cells #[.int .i64 0, .int .i64 0] 29 (0, 0))) ∧ (w.heap.size ≤ s_.2) ∧ (w.heap.size ≤ s_.2) ∧ (gb504 ≠ s_.2) ∧ (s_.2 ≠ gb504) ∧ (gb510 ≠ s_.2) ∧ (s_.2 ≠ gb510) ∧ (gb529 ≠ s_.2) ∧ (s_.2 ≠ gb529) ∧ (Below w.heap.size w w')) ?_ ?_
                   rotate_left
                   ·intro hJ1_11
                    refine join_ (σ := Value × Nat) 9 #[true, false, true, false, true, true, false, false, false, false, false, true, false, false] (fun s_ => [(72, s_.1), (14, .pointer (some ⟨s_.2, 0, none⟩))]) (fun s_ w' => (w'.cell? ⟨gb504, 0, none⟩ = some (.int .i64 a0_0) ∧ w'.cell? ⟨gb504, 1, none⟩ = some (.int .i64 a0_1) ∧ w'.cell? ⟨gb504, 2, none⟩ = some (.int .i64 a0_2) ∧ w'.cell? ⟨gb529, 0, none⟩ = some (.int .i64 t516) ∧ w'.cell? ⟨gb529, 1, none⟩ = some (.int .i64 t517) ∧ w'.cell? ⟨gb529, 2, none⟩ = some (.slice Ao51 t518.length co51) ∧ w'.cell? ⟨gb529, 3, none⟩ = some (.slice Ao52 t521.length co52) ∧ w'.cell? ⟨gb529, 4, none⟩ = some (.slice Ao53 t524.length co53) ∧ w'.cell? ⟨gb529, 5, none⟩ = some (.bool t527)) ∧ (Kd.N k41 41 w' w.heap.size (fun k_ => (P1_ k_ ∨ w.heap.size ≤ k_) ∧ k_ ≠ gb504 ∧ k_ ≠ gb510 ∧ k_ ≠ gb529 ∧ k_ ≠ s_.2) s_.1 y536) ∧ (Kd.V k41 41 w' w.heap.size (fun k_ => (P1_ k_ ∨ w.heap.size ≤ k_) ∧ some k_ ≠ (s_.1 : Value).ownBlock ∧ k_ ≠ gb504 ∧ k_ ≠ gb510 ∧ k_ ≠ gb529 ∧ k_ ≠ s_.2) (.slice A1 l1.length c1) l1) ∧ (Kd.V k29 29 w' w.heap.size (fun k_ => (P1_ k_ ∨ w.heap.size ≤ k_) ∧ some k_ ≠ (s_.1 : Value).ownBlock ∧ k_ ≠ gb504 ∧ k_ ≠ gb510 ∧ k_ ≠ gb529 ∧ k_ ≠ s_.2) (.slice Ao42 t512.length co42) t512) ∧ (w'.heap[gb504]? = some (.cells #[.int .i64 a0_0, .int .i64 a0_1, .int .i64 a0_2] 23 (0, 0))) ∧ (w'.heap[gb510]? = some (.cells #[.int .i64 t507, .int .i64 t508] 29 (0, 0))) ∧ (w'.heap[gb529]? = some (.cells #[.int .i64 t516, .int .i64 t517, .slice Ao51 t518.length co51, .slice Ao52 t521.length co52, .slice Ao53 t524.length co53, .bool t527] 41 (0, 0))) ∧ (w'.heap[s_.2]? = some (.cells #[.int .i64 0, .int .i64 0] 29 (0, 0))) ∧ (w.heap.size ≤ s_.2) ∧ (w.heap.size ≤ s_.2) ∧ (gb504 ≠ s_.2) ∧ (s_.2 ≠ gb504) ∧ (gb510 ≠ s_.2) ∧ (s_.2 ≠ gb510) ∧ (gb529 ≠ s_.2) ∧ (s_.2 ≠ gb529) ∧ (Below w.heap.size w w')) ?_ ?_
                    rotate_left
                    ·intro hJ5_11
                     refine join_ (σ := Value) 10 #[true, true, true, false, true, false, false, false, false, false, false, false, false, false] (fun s_ => [(68, s_)]) (fun s_ w' => (w'.cell? ⟨gb504, 0, none⟩ = some (.int .i64 a0_0) ∧ w'.cell? ⟨gb504, 1, none⟩ = some (.int .i64 a0_1) ∧ w'.cell? ⟨gb504, 2, none⟩ = some (.int .i64 a0_2) ∧ w'.cell? ⟨gb529, 0, none⟩ = some (.int .i64 t516) ∧ w'.cell? ⟨gb529, 1, none⟩ = some (.int .i64 t517) ∧ w'.cell? ⟨gb529, 2, none⟩ = some (.slice Ao51 t518.length co51) ∧ w'.cell? ⟨gb529, 3, none⟩ = some (.slice Ao52 t521.length co52) ∧ w'.cell? ⟨gb529, 4, none⟩ = some (.slice Ao53 t524.length co53) ∧ w'.cell? ⟨gb529, 5, none⟩ = some (.bool t527)) ∧ (Kd.N k41 41 w' w.heap.size (fun k_ => (P1_ k_ ∨ w.heap.size ≤ k_) ∧ some k_ ≠ (.slice Ao51 t518.length co51 : Value).ownBlock ∧ some k_ ≠ (.slice Ao52 t521.length co52 : Value).ownBlock ∧ some k_ ≠ (.slice Ao53 t524.length co53 : Value).ownBlock ∧ k_ ≠ gb504 ∧ k_ ≠ gb510 ∧ k_ ≠ gb529) s_ y530) ∧ (Kd.V k41 41 w' w.heap.size (fun k_ => (P1_ k_ ∨ w.heap.size ≤ k_) ∧ some k_ ≠ (s_ : Value).ownBlock ∧ some k_ ≠ (.slice Ao51 t518.length co51 : Value).ownBlock ∧ some k_ ≠ (.slice Ao52 t521.length co52 : Value).ownBlock ∧ some k_ ≠ (.slice Ao53 t524.length co53 : Value).ownBlock ∧ k_ ≠ gb504 ∧ k_ ≠ gb510 ∧ k_ ≠ gb529) (.slice A1 l1.length c1) l1) ∧ (Kd.R (Kd.int .u64) 57 w' w.heap.size (fun k_ => (w.heap.size ≤ k_) ∧ some k_ ≠ (.slice Ao52 t521.length co52 : Value).ownBlock ∧ some k_ ≠ (.slice Ao53 t524.length co53 : Value).ownBlock) (.slice Ao51 t518.length co51) t518) ∧ (Kd.R (Kd.int .u64) 57 w' w.heap.size (fun k_ => (w.heap.size ≤ k_) ∧ some k_ ≠ (.slice Ao51 t518.length co51 : Value).ownBlock ∧ some k_ ≠ (.slice Ao53 t524.length co53 : Value).ownBlock) (.slice Ao52 t521.length co52) t521) ∧ (Kd.R (Kd.int .u64) 57 w' w.heap.size (fun k_ => (w.heap.size ≤ k_) ∧ some k_ ≠ (.slice Ao51 t518.length co51 : Value).ownBlock ∧ some k_ ≠ (.slice Ao52 t521.length co52 : Value).ownBlock) (.slice Ao53 t524.length co53) t524) ∧ (Kd.V k29 29 w' w.heap.size (fun k_ => (P1_ k_ ∨ w.heap.size ≤ k_) ∧ some k_ ≠ (s_ : Value).ownBlock ∧ some k_ ≠ (.slice Ao51 t518.length co51 : Value).ownBlock ∧ some k_ ≠ (.slice Ao52 t521.length co52 : Value).ownBlock ∧ some k_ ≠ (.slice Ao53 t524.length co53 : Value).ownBlock ∧ k_ ≠ gb504 ∧ k_ ≠ gb510 ∧ k_ ≠ gb529) (.slice Ao42 t512.length co42) t512) ∧ (w'.heap[gb504]? = some (.cells #[.int .i64 a0_0, .int .i64 a0_1, .int .i64 a0_2] 23 (0, 0))) ∧ (w'.heap[gb510]? = some (.cells #[.int .i64 t507, .int .i64 t508] 29 (0, 0))) ∧ (w'.heap[gb529]? = some (.cells #[.int .i64 t516, .int .i64 t517, .slice Ao51 t518.length co51, .slice Ao52 t521.length co52, .slice Ao53 t524.length co53, .bool t527] 41 (0, 0))) ∧ (Below w.heap.size w w')) ?_ ?_
                     rotate_left
                     ·intro hJ1
                      refine join_ (σ := Value) 10 #[true, false, true, false, true, true, false, false, false, false, false, false, false, false] (fun s_ => [(72, s_)]) (fun s_ w' => (w'.cell? ⟨gb504, 0, none⟩ = some (.int .i64 a0_0) ∧ w'.cell? ⟨gb504, 1, none⟩ = some (.int .i64 a0_1) ∧ w'.cell? ⟨gb504, 2, none⟩ = some (.int .i64 a0_2) ∧ w'.cell? ⟨gb529, 0, none⟩ = some (.int .i64 t516) ∧ w'.cell? ⟨gb529, 1, none⟩ = some (.int .i64 t517) ∧ w'.cell? ⟨gb529, 2, none⟩ = some (.slice Ao51 t518.length co51) ∧ w'.cell? ⟨gb529, 3, none⟩ = some (.slice Ao52 t521.length co52) ∧ w'.cell? ⟨gb529, 4, none⟩ = some (.slice Ao53 t524.length co53) ∧ w'.cell? ⟨gb529, 5, none⟩ = some (.bool t527)) ∧ (Kd.N k41 41 w' w.heap.size (fun k_ => (P1_ k_ ∨ w.heap.size ≤ k_) ∧ k_ ≠ gb504 ∧ k_ ≠ gb510 ∧ k_ ≠ gb529) s_ y536) ∧ (Kd.V k41 41 w' w.heap.size (fun k_ => (P1_ k_ ∨ w.heap.size ≤ k_) ∧ some k_ ≠ (s_ : Value).ownBlock ∧ k_ ≠ gb504 ∧ k_ ≠ gb510 ∧ k_ ≠ gb529) (.slice A1 l1.length c1) l1) ∧ (Kd.V k29 29 w' w.heap.size (fun k_ => (P1_ k_ ∨ w.heap.size ≤ k_) ∧ some k_ ≠ (s_ : Value).ownBlock ∧ k_ ≠ gb504 ∧ k_ ≠ gb510 ∧ k_ ≠ gb529) (.slice Ao42 t512.length co42) t512) ∧ (w'.heap[gb504]? = some (.cells #[.int .i64 a0_0, .int .i64 a0_1, .int .i64 a0_2] 23 (0, 0))) ∧ (w'.heap[gb510]? = some (.cells #[.int .i64 t507, .int .i64 t508] 29 (0, 0))) ∧ (w'.heap[gb529]? = some (.cells #[.int .i64 t516, .int .i64 t517, .slice Ao51 t518.length co51, .slice Ao52 t521.length co52, .slice Ao53 t524.length co53, .bool t527] 41 (0, 0))) ∧ (Below w.heap.size w w')) ?_ ?_
                      rotate_left
                      ·intro hJ5
                       refine join_ (σ := Nat) 10 #[true, false, true, false, true, false, false, false, false, false, false, true, false, false] (fun s_ => [(14, .pointer (some ⟨s_, 0, none⟩))]) (fun s_ w' => (w'.cell? ⟨gb504, 0, none⟩ = some (.int .i64 a0_0) ∧ w'.cell? ⟨gb504, 1, none⟩ = some (.int .i64 a0_1) ∧ w'.cell? ⟨gb504, 2, none⟩ = some (.int .i64 a0_2) ∧ w'.cell? ⟨gb529, 0, none⟩ = some (.int .i64 t516) ∧ w'.cell? ⟨gb529, 1, none⟩ = some (.int .i64 t517) ∧ w'.cell? ⟨gb529, 2, none⟩ = some (.slice Ao51 t518.length co51) ∧ w'.cell? ⟨gb529, 3, none⟩ = some (.slice Ao52 t521.length co52) ∧ w'.cell? ⟨gb529, 4, none⟩ = some (.slice Ao53 t524.length co53) ∧ w'.cell? ⟨gb529, 5, none⟩ = some (.bool t527)) ∧ (Kd.V k41 41 w' w.heap.size (fun k_ => (P1_ k_ ∨ w.heap.size ≤ k_) ∧ some k_ ≠ (.slice Ao51 t518.length co51 : Value).ownBlock ∧ some k_ ≠ (.slice Ao52 t521.length co52 : Value).ownBlock ∧ some k_ ≠ (.slice Ao53 t524.length co53 : Value).ownBlock ∧ k_ ≠ gb504 ∧ k_ ≠ gb510 ∧ k_ ≠ gb529 ∧ k_ ≠ s_) (.slice A1 l1.length c1) l1) ∧ (Kd.R (Kd.int .u64) 57 w' w.heap.size (fun k_ => (w.heap.size ≤ k_) ∧ some k_ ≠ (.slice Ao52 t521.length co52 : Value).ownBlock ∧ some k_ ≠ (.slice Ao53 t524.length co53 : Value).ownBlock) (.slice Ao51 t518.length co51) t518) ∧ (Kd.R (Kd.int .u64) 57 w' w.heap.size (fun k_ => (w.heap.size ≤ k_) ∧ some k_ ≠ (.slice Ao51 t518.length co51 : Value).ownBlock ∧ some k_ ≠ (.slice Ao53 t524.length co53 : Value).ownBlock) (.slice Ao52 t521.length co52) t521) ∧ (Kd.R (Kd.int .u64) 57 w' w.heap.size (fun k_ => (w.heap.size ≤ k_) ∧ some k_ ≠ (.slice Ao51 t518.length co51 : Value).ownBlock ∧ some k_ ≠ (.slice Ao52 t521.length co52 : Value).ownBlock) (.slice Ao53 t524.length co53) t524) ∧ (Kd.V k29 29 w' w.heap.size (fun k_ => (P1_ k_ ∨ w.heap.size ≤ k_) ∧ some k_ ≠ (.slice Ao51 t518.length co51 : Value).ownBlock ∧ some k_ ≠ (.slice Ao52 t521.length co52 : Value).ownBlock ∧ some k_ ≠ (.slice Ao53 t524.length co53 : Value).ownBlock ∧ k_ ≠ gb504 ∧ k_ ≠ gb510 ∧ k_ ≠ gb529 ∧ k_ ≠ s_) (.slice Ao42 t512.length co42) t512) ∧ (w'.heap[gb504]? = some (.cells #[.int .i64 a0_0, .int .i64 a0_1, .int .i64 a0_2] 23 (0, 0))) ∧ (w'.heap[gb510]? = some (.cells #[.int .i64 t507, .int .i64 t508] 29 (0, 0))) ∧ (w'.heap[gb529]? = some (.cells #[.int .i64 t516, .int .i64 t517, .slice Ao51 t518.length co51, .slice Ao52 t521.length co52, .slice Ao53 t524.length co53, .bool t527] 41 (0, 0))) ∧ (w'.heap[s_]? = some (.cells #[.int .i64 0, .int .i64 0] 29 (0, 0))) ∧ (w.heap.size ≤ s_) ∧ (w.heap.size ≤ s_) ∧ (gb504 ≠ s_) ∧ (s_ ≠ gb504) ∧ (gb510 ≠ s_) ∧ (s_ ≠ gb510) ∧ (gb529 ≠ s_) ∧ (s_ ≠ gb529) ∧ (Below w.heap.size w w')) ?_ ?_
                       rotate_left
                       ·intro hJ11
                        refine three_ (i := 1) (j := 5) (k := 11) (Ni := some 68) (Nj := some 72) (Nk := some 14) #[true, true, true, false, true, false, false, false, false, false, false, false, false, false] #[true, false, true, false, true, true, false, false, false, false, false, false, false, false] #[true, false, true, false, true, false, false, false, false, false, false, true, false, false] rfl rfl rfl rfl rfl rfl (three_of HT_.out (by kernel_rfl)) (by decide) (by decide) (by decide) (fun K hK => ?_) (fun K hK => ?_) (fun K hK => ?_)
                        ·skip
                         refine Kd.N_lit_step k41 _ 41 ?hg (N' := 68) ?hd (xs := ([] : List (S41))) (inner := []) (ok := (fun k_ => (P1_ k_ ∨ w.heap.size ≤ k_) ∧ some k_ ≠ (.slice Ao51 t518.length co51 : Value).ownBlock ∧ some k_ ≠ (.slice Ao52 t521.length co52 : Value).ownBlock ∧ some k_ ≠ (.slice Ao53 t524.length co53 : Value).ownBlock ∧ k_ ≠ gb504 ∧ k_ ≠ gb510 ∧ k_ ≠ gb529)) (okp := (fun k_ => (P1_ k_ ∨ w.heap.size ≤ k_) ∧ some k_ ≠ (.slice Ao51 t518.length co51 : Value).ownBlock ∧ some k_ ≠ (.slice Ao52 t521.length co52 : Value).ownBlock ∧ some k_ ≠ (.slice Ao53 t524.length co53 : Value).ownBlock ∧ k_ ≠ gb504 ∧ k_ ≠ gb510 ∧ k_ ≠ gb529)) ?hr ?hp (fun _ hk => hk) ((show ∀ k_, w60.heap.size ≤ k_ → (fun k_ => (P1_ k_ ∨ w.heap.size ≤ k_) ∧ some k_ ≠ (.slice Ao51 t518.length co51 : Value).ownBlock ∧ some k_ ≠ (.slice Ao52 t521.length co52 : Value).ownBlock ∧ some k_ ≠ (.slice Ao53 t524.length co53 : Value).ownBlock ∧ k_ ≠ gb504 ∧ k_ ≠ gb510 ∧ k_ ≠ gb529) k_ from fun k_ hk => ⟨(.inr (Nat.le_trans (below_size (hB_ w)) hk)), Kd.fresh' (Kd.R_lt (r_ HO_530002)) k_ hk, Kd.fresh' (Kd.R_lt (r_ HO_530003)) k_ hk, Kd.fresh' (Kd.R_lt (r_ HO_530004)) k_ hk, Kd.freshB (g := gb504) (b_ BK504) k_ hk, Kd.freshB (g := gb510) (b_ BK510) k_ hk, Kd.freshB (g := gb529) (b_ BK529) k_ hk⟩) _ (Nat.le_refl _)) (Below.refl _ _) (Nat.le_refl _) (by simp) ?_; (case hd => rfl); (case hg => rfl); (case hr => first | (go_simp; done) | (go_simp; rfl)); (case hp => exact (Reps.none _ _))
                         intro v531 w61 ho62 hb hg_ hnew_
                         clear hg_ hnew_
                         (first | rw [← Ny530.out] at ho62 | (simp only [Int.reduceToNat] at ho62; rw [← Ny530.out] at ho62))
                         replace HO_1 := A_ (Kd.V_elder' (v_ HO_1) (Kd.N_base ho62) hb); replace HO_9 := A_ (Kd.V_elder' (v_ HO_9) (Kd.N_base ho62) hb); replace HO_530002 := A_ (Kd.R_below (r_ HO_530002) hb); replace HO_530003 := A_ (Kd.R_below (r_ HO_530003) hb); replace HO_530004 := A_ (Kd.R_below (r_ HO_530004) hb); have HO532 := A_ (Kd.N_lower ho62 (below_size (hB_ w))); replace BK504 := A_ (blk_below (g := gb504) (b_ BK504) hb); replace BK510 := A_ (blk_below (g := gb510) (b_ BK510) hb); replace BK529 := A_ (blk_below (g := gb529) (b_ BK529) hb); replace HB := A_ (below_step (hB_ w) hb); clear hb ho62
                         refine hK.out _ _ (tallysticklaw19_PlanMissing.held0_ BK504 BK529) (fun hHeld => ?_)
                         clear hK K
                         refine norm_ (a' := ?_) ?_ ?_
                         rotate_left
                         ·show Act.put _ (some 68) _ = _
                          simp only [Act.put, List.setIfInBounds_toArray, List.set_cons_zero, List.set_cons_succ, i64_w, i32_w]
                          rfl
                         exact norm_ (by first | (simp only [putAll, Act.put, List.setIfInBounds_toArray, List.set_cons_zero, List.set_cons_succ]; done) | (simp only [putAll, Act.put, List.setIfInBounds_toArray, List.set_cons_zero, List.set_cons_succ]; rfl)) (hJ1 (v531) _ ⟨hHeld, (n_ HO532), (Kd.V_mono (v_ HO_1) (fun _ hk => ⟨hk.1.1, ⟨hk.2, ⟨hk.1.2.1, ⟨hk.1.2.2.1, ⟨hk.1.2.2.2.1, ⟨hk.1.2.2.2.2.1, ⟨hk.1.2.2.2.2.2.1, hk.1.2.2.2.2.2.2⟩⟩⟩⟩⟩⟩⟩)), (r_ HO_530002), (r_ HO_530003), (r_ HO_530004), (Kd.V_mono (v_ HO_9) (fun _ hk => ⟨hk.1.1, ⟨hk.2, ⟨hk.1.2.1, ⟨hk.1.2.2.1, ⟨hk.1.2.2.2.1, ⟨hk.1.2.2.2.2.1, ⟨hk.1.2.2.2.2.2.1, hk.1.2.2.2.2.2.2⟩⟩⟩⟩⟩⟩⟩)), (b_ BK504), (b_ BK510), (b_ BK529), (hB_ w)⟩)
                        ·skip
                         refine Kd.N_lit_step k41 _ 41 ?hg (N' := 72) ?hd (xs := ([(⟨(⟨t516, t517⟩ : S29), t518, t521, t524, t527⟩ : S41)] : List (S41))) (inner := [.int .i64 t516, .int .i64 t517, .slice Ao51 t518.length co51, .slice Ao52 t521.length co52, .slice Ao53 t524.length co53, .bool t527]) (ok := (fun k_ => (P1_ k_ ∨ w.heap.size ≤ k_) ∧ k_ ≠ gb504 ∧ k_ ≠ gb510 ∧ k_ ≠ gb529)) (okp := (fun k_ => (P1_ k_ ∨ w.heap.size ≤ k_) ∧ k_ ≠ gb504 ∧ k_ ≠ gb510 ∧ k_ ≠ gb529)) ?hr ?hp (fun _ hk => hk) ((show ∀ k_, w60.heap.size ≤ k_ → (fun k_ => (P1_ k_ ∨ w.heap.size ≤ k_) ∧ k_ ≠ gb504 ∧ k_ ≠ gb510 ∧ k_ ≠ gb529) k_ from fun k_ hk => ⟨(.inr (Nat.le_trans (below_size (hB_ w)) hk)), Kd.freshB (g := gb504) (b_ BK504) k_ hk, Kd.freshB (g := gb510) (b_ BK510) k_ hk, Kd.freshB (g := gb529) (b_ BK529) k_ hk⟩) _ (Nat.le_refl _)) (Below.refl _ _) (Nat.le_refl _) (by simp) ?_; (case hd => rfl); (case hg => rfl); (case hr => first | (go_simp; done) | (go_simp; rfl)); (case hp => exact (Reps.c6 (show Kd.FK k41 _ _ (⟨(⟨t516, t517⟩ : S29), t518, t521, t524, t527⟩ : S41) [.int .i64 t516, .int .i64 t517, .slice Ao51 t518.length co51, .slice Ao52 t521.length co52, .slice Ao53 t524.length co53, .bool t527] from (k41_mkF _ _ (⟨(⟨t516, t517⟩ : S29), t518, t521, t524, t527⟩ : S41) (Kd.R_reads' (Kd.R_mono (ok' := (fun k_ => (P1_ k_ ∨ w.heap.size ≤ k_) ∧ k_ ≠ gb504 ∧ k_ ≠ gb510 ∧ k_ ≠ gb529)) (Kd.R_types (Kd.R_types (Kd.R_types (HO_530002.out) BK504.out (by decide)) BK510.out (by decide)) BK529.out (by decide)) (fun k_ hk => ⟨(.inr (hk.1.1.1.1)), ⟨hk.1.1.2, ⟨hk.1.2, hk.2⟩⟩⟩))).2.1 (Kd.R_F (Kd.R_mono (ok' := (fun k_ => (P1_ k_ ∨ w.heap.size ≤ k_) ∧ k_ ≠ gb504 ∧ k_ ≠ gb510 ∧ k_ ≠ gb529)) (Kd.R_types (Kd.R_types (Kd.R_types (HO_530002.out) BK504.out (by decide)) BK510.out (by decide)) BK529.out (by decide)) (fun k_ hk => ⟨(.inr (hk.1.1.1.1)), ⟨hk.1.1.2, ⟨hk.1.2, hk.2⟩⟩⟩))) (Kd.R_reads' (Kd.R_mono (ok' := (fun k_ => (P1_ k_ ∨ w.heap.size ≤ k_) ∧ k_ ≠ gb504 ∧ k_ ≠ gb510 ∧ k_ ≠ gb529)) (Kd.R_types (Kd.R_types (Kd.R_types (HO_530003.out) BK504.out (by decide)) BK510.out (by decide)) BK529.out (by decide)) (fun k_ hk => ⟨(.inr (hk.1.1.1.1)), ⟨hk.1.1.2, ⟨hk.1.2, hk.2⟩⟩⟩))).2.1 (Kd.R_F (Kd.R_mono (ok' := (fun k_ => (P1_ k_ ∨ w.heap.size ≤ k_) ∧ k_ ≠ gb504 ∧ k_ ≠ gb510 ∧ k_ ≠ gb529)) (Kd.R_types (Kd.R_types (Kd.R_types (HO_530003.out) BK504.out (by decide)) BK510.out (by decide)) BK529.out (by decide)) (fun k_ hk => ⟨(.inr (hk.1.1.1.1)), ⟨hk.1.1.2, ⟨hk.1.2, hk.2⟩⟩⟩))) (Kd.R_reads' (Kd.R_mono (ok' := (fun k_ => (P1_ k_ ∨ w.heap.size ≤ k_) ∧ k_ ≠ gb504 ∧ k_ ≠ gb510 ∧ k_ ≠ gb529)) (Kd.R_types (Kd.R_types (Kd.R_types (HO_530004.out) BK504.out (by decide)) BK510.out (by decide)) BK529.out (by decide)) (fun k_ hk => ⟨(.inr (hk.1.1.1.1)), ⟨hk.1.1.2, ⟨hk.1.2, hk.2⟩⟩⟩))).2.1 (Kd.R_F (Kd.R_mono (ok' := (fun k_ => (P1_ k_ ∨ w.heap.size ≤ k_) ∧ k_ ≠ gb504 ∧ k_ ≠ gb510 ∧ k_ ≠ gb529)) (Kd.R_types (Kd.R_types (Kd.R_types (HO_530004.out) BK504.out (by decide)) BK510.out (by decide)) BK529.out (by decide)) (fun k_ hk => ⟨(.inr (hk.1.1.1.1)), ⟨hk.1.1.2, ⟨hk.1.2, hk.2⟩⟩⟩))))) (Reps.none _ _)))
                         intro v537 w61 ho62 hb hg_ hnew_
                         clear hg_ hnew_
                         (first | rw [← Ny536.out] at ho62 | (simp only [Int.reduceToNat] at ho62; rw [← Ny536.out] at ho62))
                         replace HO_1 := A_ (Kd.V_elder' (v_ HO_1) (Kd.N_base ho62) hb); replace HO_9 := A_ (Kd.V_elder' (v_ HO_9) (Kd.N_base ho62) hb); have HO538 := A_ (Kd.N_lower ho62 (below_size (hB_ w))); replace BK504 := A_ (blk_below (g := gb504) (b_ BK504) hb); replace BK510 := A_ (blk_below (g := gb510) (b_ BK510) hb); replace BK529 := A_ (blk_below (g := gb529) (b_ BK529) hb); replace HB := A_ (below_step (hB_ w) hb); clear HO_530002 HO_530003 HO_530004; clear hb ho62
                         refine hK.out _ _ (tallysticklaw19_PlanMissing.held0_ BK504 BK529) (fun hHeld => ?_)
                         clear hK K
                         refine norm_ (a' := ?_) ?_ ?_
                         rotate_left
                         ·show Act.put _ (some 72) _ = _
                          simp only [Act.put, List.setIfInBounds_toArray, List.set_cons_zero, List.set_cons_succ, i64_w, i32_w]
                          rfl
                         exact norm_ (by first | (simp only [putAll, Act.put, List.setIfInBounds_toArray, List.set_cons_zero, List.set_cons_succ]; done) | (simp only [putAll, Act.put, List.setIfInBounds_toArray, List.set_cons_zero, List.set_cons_succ]; rfl)) (hJ5 (v537) _ ⟨hHeld, (n_ HO538), (Kd.V_mono (v_ HO_1) (fun _ hk => ⟨hk.1.1, ⟨hk.2, ⟨hk.1.2.2.2.2.1, ⟨hk.1.2.2.2.2.2.1, hk.1.2.2.2.2.2.2⟩⟩⟩⟩)), (Kd.V_mono (v_ HO_9) (fun _ hk => ⟨hk.1.1, ⟨hk.2, ⟨hk.1.2.2.2.2.1, ⟨hk.1.2.2.2.2.2.1, hk.1.2.2.2.2.2.2⟩⟩⟩⟩)), (b_ BK504), (b_ BK510), (b_ BK529), (hB_ w)⟩)
                        refine box_step ?hg (N := 14) ?hd (cs := #[.int .i64 0, .int .i64 0]) (t := 29) ?hr ?_; (case hd => rfl); (case hg => rfl); (case hr => first | (go_simp; done) | (go_simp; rfl))
                        intro gb545 hg w61 hbox hb
                        replace HO_1 := A_ (Kd.V_below (Kd.V_elderB (v_ HO_1) gb545 (Nat.le_of_eq hg.symm)) hb); replace HO_9 := A_ (Kd.V_below (Kd.V_elderB (v_ HO_9) gb545 (Nat.le_of_eq hg.symm)) hb); replace HO_530002 := A_ (Kd.R_below (r_ HO_530002) hb); replace HO_530003 := A_ (Kd.R_below (r_ HO_530003) hb); replace HO_530004 := A_ (Kd.R_below (r_ HO_530004) hb); have BK545 := A_ hbox; have GW545 := A_ ((by rw [hg]; exact (below_size (hB_ w)) : w.heap.size ≤ gb545)); have GE545 := A_ ((by rw [hg]; exact (below_size (hB_ w)) : w.heap.size ≤ gb545)); replace HB := A_ (below_step (hB_ w) hb); have NB504_545 := A_ ((by rw [hg]; exact Nat.ne_of_lt (blk_lt (g := gb504) (b_ BK504)) : gb504 ≠ gb545)); have NB545_504 := A_ ((by rw [hg]; exact Nat.ne_of_gt (blk_lt (g := gb504) (b_ BK504)) : gb545 ≠ gb504)); replace BK504 := A_ (blk_below (g := gb504) (b_ BK504) hb); have NB510_545 := A_ ((by rw [hg]; exact Nat.ne_of_lt (blk_lt (g := gb510) (b_ BK510)) : gb510 ≠ gb545)); have NB545_510 := A_ ((by rw [hg]; exact Nat.ne_of_gt (blk_lt (g := gb510) (b_ BK510)) : gb545 ≠ gb510)); replace BK510 := A_ (blk_below (g := gb510) (b_ BK510) hb); have NB529_545 := A_ ((by rw [hg]; exact Nat.ne_of_lt (blk_lt (g := gb529) (b_ BK529)) : gb529 ≠ gb545)); have NB545_529 := A_ ((by rw [hg]; exact Nat.ne_of_gt (blk_lt (g := gb529) (b_ BK529)) : gb545 ≠ gb529)); replace BK529 := A_ (blk_below (g := gb529) (b_ BK529) hb); clear hb hbox hg
                        refine hK.out _ _ (tallysticklaw19_PlanMissing.held0_ BK504 BK529) (fun hHeld => ?_)
                        clear hK K
                        refine norm_ (a' := ?_) ?_ ?_
                        rotate_left
                        ·show Act.put _ (some 14) _ = _
                         simp only [Act.put, List.setIfInBounds_toArray, List.set_cons_zero, List.set_cons_succ, i64_w, i32_w]
                         rfl
                        exact norm_ (by first | (simp only [putAll, Act.put, List.setIfInBounds_toArray, List.set_cons_zero, List.set_cons_succ]; done) | (simp only [putAll, Act.put, List.setIfInBounds_toArray, List.set_cons_zero, List.set_cons_succ]; rfl)) (hJ11 (gb545) _ ⟨hHeld, (Kd.V_mono (v_ HO_1) (fun _ hk => ⟨hk.1.1, ⟨hk.1.2.1, ⟨hk.1.2.2.1, ⟨hk.1.2.2.2.1, ⟨hk.1.2.2.2.2.1, ⟨hk.1.2.2.2.2.2.1, ⟨hk.1.2.2.2.2.2.2, hk.2⟩⟩⟩⟩⟩⟩⟩)), (r_ HO_530002), (r_ HO_530003), (r_ HO_530004), (Kd.V_mono (v_ HO_9) (fun _ hk => ⟨hk.1.1, ⟨hk.1.2.1, ⟨hk.1.2.2.1, ⟨hk.1.2.2.2.1, ⟨hk.1.2.2.2.2.1, ⟨hk.1.2.2.2.2.2.1, ⟨hk.1.2.2.2.2.2.2, hk.2⟩⟩⟩⟩⟩⟩⟩)), (b_ BK504), (b_ BK510), (b_ BK529), (b_ BK545), GW545.out, GE545.out, NB504_545.out, NB545_504.out, NB510_545.out, NB545_510.out, NB529_545.out, NB545_529.out, (hB_ w)⟩)
                       rintro gb545 w62 ⟨hS_, h0_, h1_, h2_, h3_, h4_, h5_, h6_, h7_, h8_, h9_, h10_, h11_, h12_, h13_, h14_, h15_, h16_, h17_⟩
                       try dsimp only at h0_ h1_ h2_ h3_ h4_ h5_ h6_ h7_ h8_ h9_ h10_ h11_ h12_ h13_ h14_ h15_ h16_ h17_
                       replace HO_1 := A_ h0_; replace HO_530002 := A_ h1_; replace HO_530003 := A_ h2_; replace HO_530004 := A_ h3_; replace HO_9 := A_ h4_; replace BK504 := A_ h5_; replace BK510 := A_ h6_; replace BK529 := A_ h7_; have BK545 := A_ h8_; have GW545 := A_ h9_; have GE545 := A_ h10_; have NB504_545 := A_ h11_; have NB545_504 := A_ h12_; have NB510_545 := A_ h13_; have NB545_510 := A_ h14_; have NB529_545 := A_ h15_; have NB545_529 := A_ h16_; replace HB := A_ h17_; clear h0_ h1_ h2_ h3_ h4_ h5_ h6_ h7_ h8_ h9_ h10_ h11_ h12_ h13_ h14_ h15_ h16_ h17_
                       have hHeld : w62.cell? ⟨gb504, 0, none⟩ = some (.int .i64 a0_0) ∧ w62.cell? ⟨gb504, 1, none⟩ = some (.int .i64 a0_1) ∧ w62.cell? ⟨gb504, 2, none⟩ = some (.int .i64 a0_2) ∧ w62.cell? ⟨gb529, 0, none⟩ = some (.int .i64 t516) ∧ w62.cell? ⟨gb529, 1, none⟩ = some (.int .i64 t517) ∧ w62.cell? ⟨gb529, 2, none⟩ = some (.slice Ao51 t518.length co51) ∧ w62.cell? ⟨gb529, 3, none⟩ = some (.slice Ao52 t521.length co52) ∧ w62.cell? ⟨gb529, 4, none⟩ = some (.slice Ao53 t524.length co53) ∧ w62.cell? ⟨gb529, 5, none⟩ = some (.bool t527) := hS_
                       refine norm_ (a' := ?_) ?_ ?_
                       rotate_left
                       ·simp only [putAll, Act.put, List.setIfInBounds_toArray, List.set_cons_zero, List.set_cons_succ]
                        rfl
                       refine two_ (i := 1) (j := 5) (Ni := some 68) (Nj := some 72) #[true, true, true, false, true, false, false, false, false, false, false, true, false, false] #[true, false, true, false, true, true, false, false, false, false, false, true, false, false] rfl rfl rfl rfl (two_of HT_.out (by kernel_rfl)) (by decide) (by decide) (fun K hK => ?_) (fun K hK => ?_)
                       ·skip
                        refine Kd.N_lit_step k41 _ 41 ?hg (N' := 68) ?hd (xs := ([] : List (S41))) (inner := []) (ok := (fun k_ => (P1_ k_ ∨ w.heap.size ≤ k_) ∧ some k_ ≠ (.slice Ao51 t518.length co51 : Value).ownBlock ∧ some k_ ≠ (.slice Ao52 t521.length co52 : Value).ownBlock ∧ some k_ ≠ (.slice Ao53 t524.length co53 : Value).ownBlock ∧ k_ ≠ gb504 ∧ k_ ≠ gb510 ∧ k_ ≠ gb529 ∧ k_ ≠ gb545)) (okp := (fun k_ => (P1_ k_ ∨ w.heap.size ≤ k_) ∧ some k_ ≠ (.slice Ao51 t518.length co51 : Value).ownBlock ∧ some k_ ≠ (.slice Ao52 t521.length co52 : Value).ownBlock ∧ some k_ ≠ (.slice Ao53 t524.length co53 : Value).ownBlock ∧ k_ ≠ gb504 ∧ k_ ≠ gb510 ∧ k_ ≠ gb529 ∧ k_ ≠ gb545)) ?hr ?hp (fun _ hk => hk) ((show ∀ k_, w62.heap.size ≤ k_ → (fun k_ => (P1_ k_ ∨ w.heap.size ≤ k_) ∧ some k_ ≠ (.slice Ao51 t518.length co51 : Value).ownBlock ∧ some k_ ≠ (.slice Ao52 t521.length co52 : Value).ownBlock ∧ some k_ ≠ (.slice Ao53 t524.length co53 : Value).ownBlock ∧ k_ ≠ gb504 ∧ k_ ≠ gb510 ∧ k_ ≠ gb529 ∧ k_ ≠ gb545) k_ from fun k_ hk => ⟨(.inr (Nat.le_trans (below_size (hB_ w)) hk)), Kd.fresh' (Kd.R_lt (r_ HO_530002)) k_ hk, Kd.fresh' (Kd.R_lt (r_ HO_530003)) k_ hk, Kd.fresh' (Kd.R_lt (r_ HO_530004)) k_ hk, Kd.freshB (g := gb504) (b_ BK504) k_ hk, Kd.freshB (g := gb510) (b_ BK510) k_ hk, Kd.freshB (g := gb529) (b_ BK529) k_ hk, Kd.freshB (g := gb545) (b_ BK545) k_ hk⟩) _ (Nat.le_refl _)) (Below.refl _ _) (Nat.le_refl _) (by simp) ?_; (case hd => rfl); (case hg => rfl); (case hr => first | (go_simp; done) | (go_simp; rfl)); (case hp => exact (Reps.none _ _))
                        intro v531 w63 ho64 hb hg_ hnew_
                        clear hg_ hnew_
                        (first | rw [← Ny530.out] at ho64 | (simp only [Int.reduceToNat] at ho64; rw [← Ny530.out] at ho64))
                        replace HO_1 := A_ (Kd.V_elder' (v_ HO_1) (Kd.N_base ho64) hb); replace HO_9 := A_ (Kd.V_elder' (v_ HO_9) (Kd.N_base ho64) hb); replace HO_530002 := A_ (Kd.R_below (r_ HO_530002) hb); replace HO_530003 := A_ (Kd.R_below (r_ HO_530003) hb); replace HO_530004 := A_ (Kd.R_below (r_ HO_530004) hb); have HO532 := A_ (Kd.N_lower ho64 (below_size (hB_ w))); replace BK504 := A_ (blk_below (g := gb504) (b_ BK504) hb); replace BK510 := A_ (blk_below (g := gb510) (b_ BK510) hb); replace BK529 := A_ (blk_below (g := gb529) (b_ BK529) hb); replace BK545 := A_ (blk_below (g := gb545) (b_ BK545) hb); replace HB := A_ (below_step (hB_ w) hb); clear hb ho64
                        refine hK.out _ _ (tallysticklaw19_PlanMissing.held0_ BK504 BK529) (fun hHeld => ?_)
                        clear hK K
                        refine norm_ (a' := ?_) ?_ ?_
                        rotate_left
                        ·show Act.put _ (some 68) _ = _
                         simp only [Act.put, List.setIfInBounds_toArray, List.set_cons_zero, List.set_cons_succ, i64_w, i32_w]
                         rfl
                        exact norm_ (by first | (simp only [putAll, Act.put, List.setIfInBounds_toArray, List.set_cons_zero, List.set_cons_succ]; done) | (simp only [putAll, Act.put, List.setIfInBounds_toArray, List.set_cons_zero, List.set_cons_succ]; rfl)) (hJ1_11 (v531, gb545) _ ⟨hHeld, (n_ HO532), (Kd.V_mono (v_ HO_1) (fun _ hk => ⟨hk.1.1, ⟨hk.2, ⟨hk.1.2.1, ⟨hk.1.2.2.1, ⟨hk.1.2.2.2.1, ⟨hk.1.2.2.2.2.1, ⟨hk.1.2.2.2.2.2.1, ⟨hk.1.2.2.2.2.2.2.1, hk.1.2.2.2.2.2.2.2⟩⟩⟩⟩⟩⟩⟩⟩)), (r_ HO_530002), (r_ HO_530003), (r_ HO_530004), (Kd.V_mono (v_ HO_9) (fun _ hk => ⟨hk.1.1, ⟨hk.2, ⟨hk.1.2.1, ⟨hk.1.2.2.1, ⟨hk.1.2.2.2.1, ⟨hk.1.2.2.2.2.1, ⟨hk.1.2.2.2.2.2.1, ⟨hk.1.2.2.2.2.2.2.1, hk.1.2.2.2.2.2.2.2⟩⟩⟩⟩⟩⟩⟩⟩)), (b_ BK504), (b_ BK510), (b_ BK529), (b_ BK545), GW545.out, GE545.out, NB504_545.out, NB545_504.out, NB510_545.out, NB545_510.out, NB529_545.out, NB545_529.out, (hB_ w)⟩)
                       refine Kd.N_lit_step k41 _ 41 ?hg (N' := 72) ?hd (xs := ([(⟨(⟨t516, t517⟩ : S29), t518, t521, t524, t527⟩ : S41)] : List (S41))) (inner := [.int .i64 t516, .int .i64 t517, .slice Ao51 t518.length co51, .slice Ao52 t521.length co52, .slice Ao53 t524.length co53, .bool t527]) (ok := (fun k_ => (P1_ k_ ∨ w.heap.size ≤ k_) ∧ k_ ≠ gb504 ∧ k_ ≠ gb510 ∧ k_ ≠ gb529 ∧ k_ ≠ gb545)) (okp := (fun k_ => (P1_ k_ ∨ w.heap.size ≤ k_) ∧ k_ ≠ gb504 ∧ k_ ≠ gb510 ∧ k_ ≠ gb529 ∧ k_ ≠ gb545)) ?hr ?hp (fun _ hk => hk) ((show ∀ k_, w62.heap.size ≤ k_ → (fun k_ => (P1_ k_ ∨ w.heap.size ≤ k_) ∧ k_ ≠ gb504 ∧ k_ ≠ gb510 ∧ k_ ≠ gb529 ∧ k_ ≠ gb545) k_ from fun k_ hk => ⟨(.inr (Nat.le_trans (below_size (hB_ w)) hk)), Kd.freshB (g := gb504) (b_ BK504) k_ hk, Kd.freshB (g := gb510) (b_ BK510) k_ hk, Kd.freshB (g := gb529) (b_ BK529) k_ hk, Kd.freshB (g := gb545) (b_ BK545) k_ hk⟩) _ (Nat.le_refl _)) (Below.refl _ _) (Nat.le_refl _) (by simp) ?_; (case hd => rfl); (case hg => rfl); (case hr => first | (go_simp; done) | (go_simp; rfl)); (case hp => exact (Reps.c6 (show Kd.FK k41 _ _ (⟨(⟨t516, t517⟩ : S29), t518, t521, t524, t527⟩ : S41) [.int .i64 t516, .int .i64 t517, .slice Ao51 t518.length co51, .slice Ao52 t521.length co52, .slice Ao53 t524.length co53, .bool t527] from (k41_mkF _ _ (⟨(⟨t516, t517⟩ : S29), t518, t521, t524, t527⟩ : S41) (Kd.R_reads' (Kd.R_mono (ok' := (fun k_ => (P1_ k_ ∨ w.heap.size ≤ k_) ∧ k_ ≠ gb504 ∧ k_ ≠ gb510 ∧ k_ ≠ gb529 ∧ k_ ≠ gb545)) (Kd.R_types (Kd.R_types (Kd.R_types (Kd.R_types (HO_530002.out) BK504.out (by decide)) BK510.out (by decide)) BK529.out (by decide)) BK545.out (by decide)) (fun k_ hk => ⟨(.inr (hk.1.1.1.1.1)), ⟨hk.1.1.1.2, ⟨hk.1.1.2, ⟨hk.1.2, hk.2⟩⟩⟩⟩))).2.1 (Kd.R_F (Kd.R_mono (ok' := (fun k_ => (P1_ k_ ∨ w.heap.size ≤ k_) ∧ k_ ≠ gb504 ∧ k_ ≠ gb510 ∧ k_ ≠ gb529 ∧ k_ ≠ gb545)) (Kd.R_types (Kd.R_types (Kd.R_types (Kd.R_types (HO_530002.out) BK504.out (by decide)) BK510.out (by decide)) BK529.out (by decide)) BK545.out (by decide)) (fun k_ hk => ⟨(.inr (hk.1.1.1.1.1)), ⟨hk.1.1.1.2, ⟨hk.1.1.2, ⟨hk.1.2, hk.2⟩⟩⟩⟩))) (Kd.R_reads' (Kd.R_mono (ok' := (fun k_ => (P1_ k_ ∨ w.heap.size ≤ k_) ∧ k_ ≠ gb504 ∧ k_ ≠ gb510 ∧ k_ ≠ gb529 ∧ k_ ≠ gb545)) (Kd.R_types (Kd.R_types (Kd.R_types (Kd.R_types (HO_530003.out) BK504.out (by decide)) BK510.out (by decide)) BK529.out (by decide)) BK545.out (by decide)) (fun k_ hk => ⟨(.inr (hk.1.1.1.1.1)), ⟨hk.1.1.1.2, ⟨hk.1.1.2, ⟨hk.1.2, hk.2⟩⟩⟩⟩))).2.1 (Kd.R_F (Kd.R_mono (ok' := (fun k_ => (P1_ k_ ∨ w.heap.size ≤ k_) ∧ k_ ≠ gb504 ∧ k_ ≠ gb510 ∧ k_ ≠ gb529 ∧ k_ ≠ gb545)) (Kd.R_types (Kd.R_types (Kd.R_types (Kd.R_types (HO_530003.out) BK504.out (by decide)) BK510.out (by decide)) BK529.out (by decide)) BK545.out (by decide)) (fun k_ hk => ⟨(.inr (hk.1.1.1.1.1)), ⟨hk.1.1.1.2, ⟨hk.1.1.2, ⟨hk.1.2, hk.2⟩⟩⟩⟩))) (Kd.R_reads' (Kd.R_mono (ok' := (fun k_ => (P1_ k_ ∨ w.heap.size ≤ k_) ∧ k_ ≠ gb504 ∧ k_ ≠ gb510 ∧ k_ ≠ gb529 ∧ k_ ≠ gb545)) (Kd.R_types (Kd.R_types (Kd.R_types (Kd.R_types (HO_530004.out) BK504.out (by decide)) BK510.out (by decide)) BK529.out (by decide)) BK545.out (by decide)) (fun k_ hk => ⟨(.inr (hk.1.1.1.1.1)), ⟨hk.1.1.1.2, ⟨hk.1.1.2, ⟨hk.1.2, hk.2⟩⟩⟩⟩))).2.1 (Kd.R_F (Kd.R_mono (ok' := (fun k_ => (P1_ k_ ∨ w.heap.size ≤ k_) ∧ k_ ≠ gb504 ∧ k_ ≠ gb510 ∧ k_ ≠ gb529 ∧ k_ ≠ gb545)) (Kd.R_types (Kd.R_types (Kd.R_types (Kd.R_types (HO_530004.out) BK504.out (by decide)) BK510.out (by decide)) BK529.out (by decide)) BK545.out (by decide)) (fun k_ hk => ⟨(.inr (hk.1.1.1.1.1)), ⟨hk.1.1.1.2, ⟨hk.1.1.2, ⟨hk.1.2, hk.2⟩⟩⟩⟩))))) (Reps.none _ _)))
                       intro v537 w63 ho64 hb hg_ hnew_
                       clear hg_ hnew_
                       (first | rw [← Ny536.out] at ho64 | (simp only [Int.reduceToNat] at ho64; rw [← Ny536.out] at ho64))
                       replace HO_1 := A_ (Kd.V_elder' (v_ HO_1) (Kd.N_base ho64) hb); replace HO_9 := A_ (Kd.V_elder' (v_ HO_9) (Kd.N_base ho64) hb); have HO538 := A_ (Kd.N_lower ho64 (below_size (hB_ w))); replace BK504 := A_ (blk_below (g := gb504) (b_ BK504) hb); replace BK510 := A_ (blk_below (g := gb510) (b_ BK510) hb); replace BK529 := A_ (blk_below (g := gb529) (b_ BK529) hb); replace BK545 := A_ (blk_below (g := gb545) (b_ BK545) hb); replace HB := A_ (below_step (hB_ w) hb); clear HO_530002 HO_530003 HO_530004; clear hb ho64
                       refine hK.out _ _ (tallysticklaw19_PlanMissing.held0_ BK504 BK529) (fun hHeld => ?_)
                       clear hK K
                       refine norm_ (a' := ?_) ?_ ?_
                       rotate_left
                       ·show Act.put _ (some 72) _ = _
                        simp only [Act.put, List.setIfInBounds_toArray, List.set_cons_zero, List.set_cons_succ, i64_w, i32_w]
                        rfl
                       exact norm_ (by first | (simp only [putAll, Act.put, List.setIfInBounds_toArray, List.set_cons_zero, List.set_cons_succ]; done) | (simp only [putAll, Act.put, List.setIfInBounds_toArray, List.set_cons_zero, List.set_cons_succ]; rfl)) (hJ5_11 (v537, gb545) _ ⟨hHeld, (n_ HO538), (Kd.V_mono (v_ HO_1) (fun _ hk => ⟨hk.1.1, ⟨hk.2, ⟨hk.1.2.2.2.2.1, ⟨hk.1.2.2.2.2.2.1, ⟨hk.1.2.2.2.2.2.2.1, hk.1.2.2.2.2.2.2.2⟩⟩⟩⟩⟩)), (Kd.V_mono (v_ HO_9) (fun _ hk => ⟨hk.1.1, ⟨hk.2, ⟨hk.1.2.2.2.2.1, ⟨hk.1.2.2.2.2.2.1, ⟨hk.1.2.2.2.2.2.2.1, hk.1.2.2.2.2.2.2.2⟩⟩⟩⟩⟩)), (b_ BK504), (b_ BK510), (b_ BK529), (b_ BK545), GW545.out, GE545.out, NB504_545.out, NB545_504.out, NB510_545.out, NB545_510.out, NB529_545.out, NB545_529.out, (hB_ w)⟩)
                      rintro v537 w63 ⟨hS_, h0_, h1_, h2_, h3_, h4_, h5_, h6_⟩
                      try dsimp only at h0_ h1_ h2_ h3_ h4_ h5_ h6_
                      have HO538 := A_ h0_; replace HO_1 := A_ h1_; replace HO_9 := A_ h2_; replace BK504 := A_ h3_; replace BK510 := A_ h4_; replace BK529 := A_ h5_; replace HB := A_ h6_; clear HO_530002 HO_530003 HO_530004 h0_ h1_ h2_ h3_ h4_ h5_ h6_
                      have hHeld : w63.cell? ⟨gb504, 0, none⟩ = some (.int .i64 a0_0) ∧ w63.cell? ⟨gb504, 1, none⟩ = some (.int .i64 a0_1) ∧ w63.cell? ⟨gb504, 2, none⟩ = some (.int .i64 a0_2) ∧ w63.cell? ⟨gb529, 0, none⟩ = some (.int .i64 t516) ∧ w63.cell? ⟨gb529, 1, none⟩ = some (.int .i64 t517) ∧ w63.cell? ⟨gb529, 2, none⟩ = some (.slice Ao51 t518.length co51) ∧ w63.cell? ⟨gb529, 3, none⟩ = some (.slice Ao52 t521.length co52) ∧ w63.cell? ⟨gb529, 4, none⟩ = some (.slice Ao53 t524.length co53) ∧ w63.cell? ⟨gb529, 5, none⟩ = some (.bool t527) := hS_
                      refine norm_ (a' := ?_) ?_ ?_
                      rotate_left
                      ·simp only [putAll, Act.put, List.setIfInBounds_toArray, List.set_cons_zero, List.set_cons_succ]
                       rfl
                      refine two_ (i := 1) (j := 11) (Ni := some 68) (Nj := some 14) #[true, true, true, false, true, true, false, false, false, false, false, false, false, false] #[true, false, true, false, true, true, false, false, false, false, false, true, false, false] rfl rfl rfl rfl (two_of HT_.out (by kernel_rfl)) (by decide) (by decide) (fun K hK => ?_) (fun K hK => ?_)
                      ·skip
                       refine Kd.N_lit_step k41 _ 41 ?hg (N' := 68) ?hd (xs := ([] : List (S41))) (inner := []) (ok := (fun k_ => (P1_ k_ ∨ w.heap.size ≤ k_) ∧ some k_ ≠ (v537 : Value).ownBlock ∧ k_ ≠ gb504 ∧ k_ ≠ gb510 ∧ k_ ≠ gb529)) (okp := (fun k_ => (P1_ k_ ∨ w.heap.size ≤ k_) ∧ some k_ ≠ (v537 : Value).ownBlock ∧ k_ ≠ gb504 ∧ k_ ≠ gb510 ∧ k_ ≠ gb529)) ?hr ?hp (fun _ hk => hk) ((show ∀ k_, w63.heap.size ≤ k_ → (fun k_ => (P1_ k_ ∨ w.heap.size ≤ k_) ∧ some k_ ≠ (v537 : Value).ownBlock ∧ k_ ≠ gb504 ∧ k_ ≠ gb510 ∧ k_ ≠ gb529) k_ from fun k_ hk => ⟨(.inr (Nat.le_trans (below_size (hB_ w)) hk)), Kd.fresh' (Kd.N_lt (n_ HO538)) k_ hk, Kd.freshB (g := gb504) (b_ BK504) k_ hk, Kd.freshB (g := gb510) (b_ BK510) k_ hk, Kd.freshB (g := gb529) (b_ BK529) k_ hk⟩) _ (Nat.le_refl _)) (Below.refl _ _) (Nat.le_refl _) (by simp) ?_; (case hd => rfl); (case hg => rfl); (case hr => first | (go_simp; done) | (go_simp; rfl)); (case hp => exact (Reps.none _ _))
                       intro v531 w64 ho65 hb hg_ hnew_
                       clear hg_ hnew_
                       (first | rw [← Ny530.out] at ho65 | (simp only [Int.reduceToNat] at ho65; rw [← Ny530.out] at ho65))
                       replace HO_1 := A_ (Kd.V_elder' (v_ HO_1) (Kd.N_base ho65) hb); replace HO_9 := A_ (Kd.V_elder' (v_ HO_9) (Kd.N_base ho65) hb); replace HO538 := A_ (Kd.N_elder' (n_ HO538) (Kd.N_base ho65) hb); have HO532 := A_ (Kd.N_lower ho65 (below_size (hB_ w))); replace BK504 := A_ (blk_below (g := gb504) (b_ BK504) hb); replace BK510 := A_ (blk_below (g := gb510) (b_ BK510) hb); replace BK529 := A_ (blk_below (g := gb529) (b_ BK529) hb); replace HB := A_ (below_step (hB_ w) hb); clear hb ho65
                       refine hK.out _ _ (tallysticklaw19_PlanMissing.held0_ BK504 BK529) (fun hHeld => ?_)
                       clear hK K
                       refine norm_ (a' := ?_) ?_ ?_
                       rotate_left
                       ·show Act.put _ (some 68) _ = _
                        simp only [Act.put, List.setIfInBounds_toArray, List.set_cons_zero, List.set_cons_succ, i64_w, i32_w]
                        rfl
                       exact norm_ (by first | (simp only [putAll, Act.put, List.setIfInBounds_toArray, List.set_cons_zero, List.set_cons_succ]; done) | (simp only [putAll, Act.put, List.setIfInBounds_toArray, List.set_cons_zero, List.set_cons_succ]; rfl)) (hJ1_5 (v531, v537) _ ⟨hHeld, (n_ HO532), (Kd.N_mono (n_ HO538) (fun _ hk => ⟨hk.1.1, ⟨hk.2, ⟨hk.1.2.1, ⟨hk.1.2.2.1, hk.1.2.2.2⟩⟩⟩⟩)), (Kd.V_mono (v_ HO_1) (fun _ hk => ⟨hk.1.1, ⟨hk.2, ⟨hk.1.2.1, ⟨hk.1.2.2.1, ⟨hk.1.2.2.2.1, hk.1.2.2.2.2⟩⟩⟩⟩⟩)), (Kd.V_mono (v_ HO_9) (fun _ hk => ⟨hk.1.1, ⟨hk.2, ⟨hk.1.2.1, ⟨hk.1.2.2.1, ⟨hk.1.2.2.2.1, hk.1.2.2.2.2⟩⟩⟩⟩⟩)), (b_ BK504), (b_ BK510), (b_ BK529), (hB_ w)⟩)
                      refine box_step ?hg (N := 14) ?hd (cs := #[.int .i64 0, .int .i64 0]) (t := 29) ?hr ?_; (case hd => rfl); (case hg => rfl); (case hr => first | (go_simp; done) | (go_simp; rfl))
                      intro gb545 hg w64 hbox hb
                      replace HO_1 := A_ (Kd.V_below (Kd.V_elderB (v_ HO_1) gb545 (Nat.le_of_eq hg.symm)) hb); replace HO_9 := A_ (Kd.V_below (Kd.V_elderB (v_ HO_9) gb545 (Nat.le_of_eq hg.symm)) hb); replace HO538 := A_ (Kd.N_below (Kd.N_elderB (n_ HO538) gb545 (Nat.le_of_eq hg.symm)) hb); have BK545 := A_ hbox; have GW545 := A_ ((by rw [hg]; exact (below_size (hB_ w)) : w.heap.size ≤ gb545)); have GE545 := A_ ((by rw [hg]; exact (below_size (hB_ w)) : w.heap.size ≤ gb545)); replace HB := A_ (below_step (hB_ w) hb); have NB504_545 := A_ ((by rw [hg]; exact Nat.ne_of_lt (blk_lt (g := gb504) (b_ BK504)) : gb504 ≠ gb545)); have NB545_504 := A_ ((by rw [hg]; exact Nat.ne_of_gt (blk_lt (g := gb504) (b_ BK504)) : gb545 ≠ gb504)); replace BK504 := A_ (blk_below (g := gb504) (b_ BK504) hb); have NB510_545 := A_ ((by rw [hg]; exact Nat.ne_of_lt (blk_lt (g := gb510) (b_ BK510)) : gb510 ≠ gb545)); have NB545_510 := A_ ((by rw [hg]; exact Nat.ne_of_gt (blk_lt (g := gb510) (b_ BK510)) : gb545 ≠ gb510)); replace BK510 := A_ (blk_below (g := gb510) (b_ BK510) hb); have NB529_545 := A_ ((by rw [hg]; exact Nat.ne_of_lt (blk_lt (g := gb529) (b_ BK529)) : gb529 ≠ gb545)); have NB545_529 := A_ ((by rw [hg]; exact Nat.ne_of_gt (blk_lt (g := gb529) (b_ BK529)) : gb545 ≠ gb529)); replace BK529 := A_ (blk_below (g := gb529) (b_ BK529) hb); clear hb hbox hg
                      refine hK.out _ _ (tallysticklaw19_PlanMissing.held0_ BK504 BK529) (fun hHeld => ?_)
                      clear hK K
                      refine norm_ (a' := ?_) ?_ ?_
                      rotate_left
                      ·show Act.put _ (some 14) _ = _
                       simp only [Act.put, List.setIfInBounds_toArray, List.set_cons_zero, List.set_cons_succ, i64_w, i32_w]
                       rfl
                      exact norm_ (by first | (simp only [putAll, Act.put, List.setIfInBounds_toArray, List.set_cons_zero, List.set_cons_succ]; done) | (simp only [putAll, Act.put, List.setIfInBounds_toArray, List.set_cons_zero, List.set_cons_succ]; rfl)) (hJ5_11 (v537, gb545) _ ⟨hHeld, (Kd.N_mono (n_ HO538) (fun _ hk => ⟨hk.1.1, ⟨hk.1.2.1, ⟨hk.1.2.2.1, ⟨hk.1.2.2.2, hk.2⟩⟩⟩⟩)), (Kd.V_mono (v_ HO_1) (fun _ hk => ⟨hk.1.1, ⟨hk.1.2.1, ⟨hk.1.2.2.1, ⟨hk.1.2.2.2.1, ⟨hk.1.2.2.2.2, hk.2⟩⟩⟩⟩⟩)), (Kd.V_mono (v_ HO_9) (fun _ hk => ⟨hk.1.1, ⟨hk.1.2.1, ⟨hk.1.2.2.1, ⟨hk.1.2.2.2.1, ⟨hk.1.2.2.2.2, hk.2⟩⟩⟩⟩⟩)), (b_ BK504), (b_ BK510), (b_ BK529), (b_ BK545), GW545.out, GE545.out, NB504_545.out, NB545_504.out, NB510_545.out, NB545_510.out, NB529_545.out, NB545_529.out, (hB_ w)⟩)
                     rintro v531 w63 ⟨hS_, h0_, h1_, h2_, h3_, h4_, h5_, h6_, h7_, h8_, h9_⟩
                     try dsimp only at h0_ h1_ h2_ h3_ h4_ h5_ h6_ h7_ h8_ h9_
                     have HO532 := A_ h0_; replace HO_1 := A_ h1_; replace HO_530002 := A_ h2_; replace HO_530003 := A_ h3_; replace HO_530004 := A_ h4_; replace HO_9 := A_ h5_; replace BK504 := A_ h6_; replace BK510 := A_ h7_; replace BK529 := A_ h8_; replace HB := A_ h9_; clear h0_ h1_ h2_ h3_ h4_ h5_ h6_ h7_ h8_ h9_
                     have hHeld : w63.cell? ⟨gb504, 0, none⟩ = some (.int .i64 a0_0) ∧ w63.cell? ⟨gb504, 1, none⟩ = some (.int .i64 a0_1) ∧ w63.cell? ⟨gb504, 2, none⟩ = some (.int .i64 a0_2) ∧ w63.cell? ⟨gb529, 0, none⟩ = some (.int .i64 t516) ∧ w63.cell? ⟨gb529, 1, none⟩ = some (.int .i64 t517) ∧ w63.cell? ⟨gb529, 2, none⟩ = some (.slice Ao51 t518.length co51) ∧ w63.cell? ⟨gb529, 3, none⟩ = some (.slice Ao52 t521.length co52) ∧ w63.cell? ⟨gb529, 4, none⟩ = some (.slice Ao53 t524.length co53) ∧ w63.cell? ⟨gb529, 5, none⟩ = some (.bool t527) := hS_
                     refine norm_ (a' := ?_) ?_ ?_
                     rotate_left
                     ·simp only [putAll, Act.put, List.setIfInBounds_toArray, List.set_cons_zero, List.set_cons_succ]
                      rfl
                     refine three_ (i := 3) (j := 5) (k := 11) (Ni := some 70) (Nj := some 72) (Nk := some 14) #[true, true, true, true, true, false, false, false, false, false, false, false, false, false] #[true, true, true, false, true, true, false, false, false, false, false, false, false, false] #[true, true, true, false, true, false, false, false, false, false, false, true, false, false] rfl rfl rfl rfl rfl rfl (three_of HT_.out (by kernel_rfl)) (by decide) (by decide) (by decide) (fun K hK => ?_) (fun K hK => ?_) (fun K hK => ?_)
                     ·skip
                      refine Kd.N_append_rows_step k41 (w0 := w) w.heap.size (by rfl) (.tmp 68) (.tmp 69) 35 41 (.agg #[(.int .i64 0), (.int .i64 0), (.slice none 0 0), (.slice none 0 0), (.slice none 0 0), (.bool false)]) 96 rfl Try.underlying35 info41 rfl (by decide) (by omega) v531 y530 l1 _ _ _ (fun k_ => (P1_ k_ ∨ w.heap.size ≤ k_) ∧ some k_ ≠ (.slice Ao51 t518.length co51 : Value).ownBlock ∧ some k_ ≠ (.slice Ao52 t521.length co52 : Value).ownBlock ∧ some k_ ≠ (.slice Ao53 t524.length co53 : Value).ownBlock ∧ k_ ≠ gb504 ∧ k_ ≠ gb510 ∧ k_ ≠ gb529) (fun k_ => ((fun k_ => (P1_ k_ ∨ w.heap.size ≤ k_) ∧ some k_ ≠ (.slice Ao51 t518.length co51 : Value).ownBlock ∧ some k_ ≠ (.slice Ao52 t521.length co52 : Value).ownBlock ∧ some k_ ≠ (.slice Ao53 t524.length co53 : Value).ownBlock ∧ k_ ≠ gb504 ∧ k_ ≠ gb510 ∧ k_ ≠ gb529)) k_ ∧ some k_ ≠ (v531 : Value).ownBlock) rfl rfl ?aO ?aR (fun _ hk => hk) ?aF ?aB ?aS ?aL ?_
                      (case aR => exact (by skip; exact Kd.V_F (Kd.V_mono (ok' := (fun k_ => ((fun k_ => (P1_ k_ ∨ w.heap.size ≤ k_) ∧ some k_ ≠ (.slice Ao51 t518.length co51 : Value).ownBlock ∧ some k_ ≠ (.slice Ao52 t521.length co52 : Value).ownBlock ∧ some k_ ≠ (.slice Ao53 t524.length co53 : Value).ownBlock ∧ k_ ≠ gb504 ∧ k_ ≠ gb510 ∧ k_ ≠ gb529)) k_ ∧ some k_ ≠ (v531 : Value).ownBlock)) (HO_1.out) (fun k_ hk => ⟨⟨hk.1, ⟨hk.2.2.1, ⟨hk.2.2.2.1, ⟨hk.2.2.2.2.1, ⟨hk.2.2.2.2.2.1, ⟨hk.2.2.2.2.2.2.1, hk.2.2.2.2.2.2.2⟩⟩⟩⟩⟩⟩, hk.2.1⟩))))
                      (case aB => exact (hB_ w))
                      (case aF => exact (fun k_ hk => ⟨(.inr (Nat.le_trans (below_size (hB_ w)) hk)), Kd.fresh' (Kd.R_lt (r_ HO_530002)) k_ hk, Kd.fresh' (Kd.R_lt (r_ HO_530003)) k_ hk, Kd.fresh' (Kd.R_lt (r_ HO_530004)) k_ hk, Kd.freshB (g := gb504) (b_ BK504) k_ hk, Kd.freshB (g := gb510) (b_ BK510) k_ hk, Kd.freshB (g := gb529) (b_ BK529) k_ hk⟩))
                      (case aO => exact (n_ HO532))
                      (case aS => exact (below_size (hB_ w)))
                      (case aL => have := LMc56.out; omega)
                      intro v534 w64 ho hb hg hat
                      rw [← Ny533.out] at ho
                      replace HO_1 := A_ (Kd.V_afterv (ok := (fun k_ => (P1_ k_ ∨ w.heap.size ≤ k_) ∧ some k_ ≠ (.slice Ao51 t518.length co51 : Value).ownBlock ∧ some k_ ≠ (.slice Ao52 t521.length co52 : Value).ownBlock ∧ some k_ ≠ (.slice Ao53 t524.length co53 : Value).ownBlock ∧ k_ ≠ gb504 ∧ k_ ≠ gb510 ∧ k_ ≠ gb529)) (Kd.V_mono (v_ HO_1) (fun _ hk => ⟨⟨hk.1, ⟨hk.2.2.1, ⟨hk.2.2.2.1, ⟨hk.2.2.2.2.1, ⟨hk.2.2.2.2.2.1, ⟨hk.2.2.2.2.2.2.1, hk.2.2.2.2.2.2.2⟩⟩⟩⟩⟩⟩, hk.2.1⟩)) hg hat); replace HO_9 := A_ (Kd.V_afterv (ok := (fun k_ => (P1_ k_ ∨ w.heap.size ≤ k_) ∧ some k_ ≠ (.slice Ao51 t518.length co51 : Value).ownBlock ∧ some k_ ≠ (.slice Ao52 t521.length co52 : Value).ownBlock ∧ some k_ ≠ (.slice Ao53 t524.length co53 : Value).ownBlock ∧ k_ ≠ gb504 ∧ k_ ≠ gb510 ∧ k_ ≠ gb529)) (Kd.V_mono (v_ HO_9) (fun _ hk => ⟨⟨hk.1, ⟨hk.2.2.1, ⟨hk.2.2.2.1, ⟨hk.2.2.2.2.1, ⟨hk.2.2.2.2.2.1, ⟨hk.2.2.2.2.2.2.1, hk.2.2.2.2.2.2.2⟩⟩⟩⟩⟩⟩, hk.2.1⟩)) hg hat); replace HO_530002 := A_ (Kd.R_over' (r_ HO_530002) (Kd.N_typed (n_ HO532)) (by decide) hg); replace HO_530003 := A_ (Kd.R_over' (r_ HO_530003) (Kd.N_typed (n_ HO532)) (by decide) hg); replace HO_530004 := A_ (Kd.R_over' (r_ HO_530004) (Kd.N_typed (n_ HO532)) (by decide) hg); replace BK504 := A_ (blk_grown (g := gb504) (b_ BK504) hg (Kd.N_ne HO532.out BK504.out (by decide))); replace BK510 := A_ (blk_grown (g := gb510) (b_ BK510) hg (Kd.N_ne HO532.out BK510.out (by decide))); replace BK529 := A_ (blk_grown (g := gb529) (b_ BK529) hg (Kd.N_away HO532.out (fun _ hk => hk.2.2.2.2.2.2))); replace HB := A_ hb; have HO535 := A_ ho; clear HO532; clear ho hb hg hat
                      refine hK.out _ _ (tallysticklaw19_PlanMissing.held0_ BK504 BK529) (fun hHeld => ?_)
                      clear hK K
                      refine norm_ (a' := ?_) ?_ ?_
                      rotate_left
                      ·show Act.put _ (some 70) _ = _
                       simp only [Act.put, List.setIfInBounds_toArray, List.set_cons_zero, List.set_cons_succ, i64_w, i32_w]
                       rfl
                      exact norm_ (by first | (simp only [putAll, Act.put, List.setIfInBounds_toArray, List.set_cons_zero, List.set_cons_succ]; done) | (simp only [putAll, Act.put, List.setIfInBounds_toArray, List.set_cons_zero, List.set_cons_succ]; rfl)) (hJ1_3 (v531, v534) _ ⟨hHeld, (n_ HO535), (Kd.V_mono (v_ HO_1) (fun _ hk => ⟨hk.1.1, ⟨hk.2, ⟨hk.1.2.1, ⟨hk.1.2.2.1, ⟨hk.1.2.2.2.1, ⟨hk.1.2.2.2.2.1, ⟨hk.1.2.2.2.2.2.1, hk.1.2.2.2.2.2.2⟩⟩⟩⟩⟩⟩⟩)), (r_ HO_530002), (r_ HO_530003), (r_ HO_530004), (Kd.V_mono (v_ HO_9) (fun _ hk => ⟨hk.1.1, ⟨hk.2, ⟨hk.1.2.1, ⟨hk.1.2.2.1, ⟨hk.1.2.2.2.1, ⟨hk.1.2.2.2.2.1, ⟨hk.1.2.2.2.2.2.1, hk.1.2.2.2.2.2.2⟩⟩⟩⟩⟩⟩⟩)), (b_ BK504), (b_ BK510), (b_ BK529), (hB_ w)⟩)
                     ·skip
                      refine Kd.N_lit_step k41 _ 41 ?hg (N' := 72) ?hd (xs := ([(⟨(⟨t516, t517⟩ : S29), t518, t521, t524, t527⟩ : S41)] : List (S41))) (inner := [.int .i64 t516, .int .i64 t517, .slice Ao51 t518.length co51, .slice Ao52 t521.length co52, .slice Ao53 t524.length co53, .bool t527]) (ok := (fun k_ => (P1_ k_ ∨ w.heap.size ≤ k_) ∧ some k_ ≠ (v531 : Value).ownBlock ∧ k_ ≠ gb504 ∧ k_ ≠ gb510 ∧ k_ ≠ gb529)) (okp := (fun k_ => (P1_ k_ ∨ w.heap.size ≤ k_) ∧ some k_ ≠ (v531 : Value).ownBlock ∧ k_ ≠ gb504 ∧ k_ ≠ gb510 ∧ k_ ≠ gb529)) ?hr ?hp (fun _ hk => hk) ((show ∀ k_, w63.heap.size ≤ k_ → (fun k_ => (P1_ k_ ∨ w.heap.size ≤ k_) ∧ some k_ ≠ (v531 : Value).ownBlock ∧ k_ ≠ gb504 ∧ k_ ≠ gb510 ∧ k_ ≠ gb529) k_ from fun k_ hk => ⟨(.inr (Nat.le_trans (below_size (hB_ w)) hk)), Kd.fresh' (Kd.N_lt (n_ HO532)) k_ hk, Kd.freshB (g := gb504) (b_ BK504) k_ hk, Kd.freshB (g := gb510) (b_ BK510) k_ hk, Kd.freshB (g := gb529) (b_ BK529) k_ hk⟩) _ (Nat.le_refl _)) (Below.refl _ _) (Nat.le_refl _) (by simp) ?_; (case hd => rfl); (case hg => rfl); (case hr => first | (go_simp; done) | (go_simp; rfl)); (case hp => exact (Reps.c6 (show Kd.FK k41 _ _ (⟨(⟨t516, t517⟩ : S29), t518, t521, t524, t527⟩ : S41) [.int .i64 t516, .int .i64 t517, .slice Ao51 t518.length co51, .slice Ao52 t521.length co52, .slice Ao53 t524.length co53, .bool t527] from (k41_mkF _ _ (⟨(⟨t516, t517⟩ : S29), t518, t521, t524, t527⟩ : S41) (Kd.R_reads' (Kd.R_mono (ok' := (fun k_ => (P1_ k_ ∨ w.heap.size ≤ k_) ∧ some k_ ≠ (v531 : Value).ownBlock ∧ k_ ≠ gb504 ∧ k_ ≠ gb510 ∧ k_ ≠ gb529)) (Kd.R_types (Kd.R_types (Kd.R_types (Kd.R_apart' (HO_530002.out) (Kd.N_typed HO532.out) (by decide)) BK504.out (by decide)) BK510.out (by decide)) BK529.out (by decide)) (fun k_ hk => ⟨(.inr (hk.1.1.1.1.1)), ⟨hk.1.1.1.2, ⟨hk.1.1.2, ⟨hk.1.2, hk.2⟩⟩⟩⟩))).2.1 (Kd.R_F (Kd.R_mono (ok' := (fun k_ => (P1_ k_ ∨ w.heap.size ≤ k_) ∧ some k_ ≠ (v531 : Value).ownBlock ∧ k_ ≠ gb504 ∧ k_ ≠ gb510 ∧ k_ ≠ gb529)) (Kd.R_types (Kd.R_types (Kd.R_types (Kd.R_apart' (HO_530002.out) (Kd.N_typed HO532.out) (by decide)) BK504.out (by decide)) BK510.out (by decide)) BK529.out (by decide)) (fun k_ hk => ⟨(.inr (hk.1.1.1.1.1)), ⟨hk.1.1.1.2, ⟨hk.1.1.2, ⟨hk.1.2, hk.2⟩⟩⟩⟩))) (Kd.R_reads' (Kd.R_mono (ok' := (fun k_ => (P1_ k_ ∨ w.heap.size ≤ k_) ∧ some k_ ≠ (v531 : Value).ownBlock ∧ k_ ≠ gb504 ∧ k_ ≠ gb510 ∧ k_ ≠ gb529)) (Kd.R_types (Kd.R_types (Kd.R_types (Kd.R_apart' (HO_530003.out) (Kd.N_typed HO532.out) (by decide)) BK504.out (by decide)) BK510.out (by decide)) BK529.out (by decide)) (fun k_ hk => ⟨(.inr (hk.1.1.1.1.1)), ⟨hk.1.1.1.2, ⟨hk.1.1.2, ⟨hk.1.2, hk.2⟩⟩⟩⟩))).2.1 (Kd.R_F (Kd.R_mono (ok' := (fun k_ => (P1_ k_ ∨ w.heap.size ≤ k_) ∧ some k_ ≠ (v531 : Value).ownBlock ∧ k_ ≠ gb504 ∧ k_ ≠ gb510 ∧ k_ ≠ gb529)) (Kd.R_types (Kd.R_types (Kd.R_types (Kd.R_apart' (HO_530003.out) (Kd.N_typed HO532.out) (by decide)) BK504.out (by decide)) BK510.out (by decide)) BK529.out (by decide)) (fun k_ hk => ⟨(.inr (hk.1.1.1.1.1)), ⟨hk.1.1.1.2, ⟨hk.1.1.2, ⟨hk.1.2, hk.2⟩⟩⟩⟩))) (Kd.R_reads' (Kd.R_mono (ok' := (fun k_ => (P1_ k_ ∨ w.heap.size ≤ k_) ∧ some k_ ≠ (v531 : Value).ownBlock ∧ k_ ≠ gb504 ∧ k_ ≠ gb510 ∧ k_ ≠ gb529)) (Kd.R_types (Kd.R_types (Kd.R_types (Kd.R_apart' (HO_530004.out) (Kd.N_typed HO532.out) (by decide)) BK504.out (by decide)) BK510.out (by decide)) BK529.out (by decide)) (fun k_ hk => ⟨(.inr (hk.1.1.1.1.1)), ⟨hk.1.1.1.2, ⟨hk.1.1.2, ⟨hk.1.2, hk.2⟩⟩⟩⟩))).2.1 (Kd.R_F (Kd.R_mono (ok' := (fun k_ => (P1_ k_ ∨ w.heap.size ≤ k_) ∧ some k_ ≠ (v531 : Value).ownBlock ∧ k_ ≠ gb504 ∧ k_ ≠ gb510 ∧ k_ ≠ gb529)) (Kd.R_types (Kd.R_types (Kd.R_types (Kd.R_apart' (HO_530004.out) (Kd.N_typed HO532.out) (by decide)) BK504.out (by decide)) BK510.out (by decide)) BK529.out (by decide)) (fun k_ hk => ⟨(.inr (hk.1.1.1.1.1)), ⟨hk.1.1.1.2, ⟨hk.1.1.2, ⟨hk.1.2, hk.2⟩⟩⟩⟩))))) (Reps.none _ _)))
                      intro v537 w64 ho65 hb hg_ hnew_
                      clear hg_ hnew_
                      (first | rw [← Ny536.out] at ho65 | (simp only [Int.reduceToNat] at ho65; rw [← Ny536.out] at ho65))
                      replace HO_1 := A_ (Kd.V_elder' (v_ HO_1) (Kd.N_base ho65) hb); replace HO_9 := A_ (Kd.V_elder' (v_ HO_9) (Kd.N_base ho65) hb); replace HO532 := A_ (Kd.N_elder' (n_ HO532) (Kd.N_base ho65) hb); have HO538 := A_ (Kd.N_lower ho65 (below_size (hB_ w))); replace BK504 := A_ (blk_below (g := gb504) (b_ BK504) hb); replace BK510 := A_ (blk_below (g := gb510) (b_ BK510) hb); replace BK529 := A_ (blk_below (g := gb529) (b_ BK529) hb); replace HB := A_ (below_step (hB_ w) hb); clear HO_530002 HO_530003 HO_530004; clear hb ho65
                      refine hK.out _ _ (tallysticklaw19_PlanMissing.held0_ BK504 BK529) (fun hHeld => ?_)
                      clear hK K
                      refine norm_ (a' := ?_) ?_ ?_
                      rotate_left
                      ·show Act.put _ (some 72) _ = _
                       simp only [Act.put, List.setIfInBounds_toArray, List.set_cons_zero, List.set_cons_succ, i64_w, i32_w]
                       rfl
                      exact norm_ (by first | (simp only [putAll, Act.put, List.setIfInBounds_toArray, List.set_cons_zero, List.set_cons_succ]; done) | (simp only [putAll, Act.put, List.setIfInBounds_toArray, List.set_cons_zero, List.set_cons_succ]; rfl)) (hJ1_5 (v531, v537) _ ⟨hHeld, (Kd.N_mono (n_ HO532) (fun _ hk => ⟨hk.1.1, ⟨hk.2, ⟨hk.1.2.2.2.2.1, ⟨hk.1.2.2.2.2.2.1, hk.1.2.2.2.2.2.2⟩⟩⟩⟩)), (n_ HO538), (Kd.V_mono (v_ HO_1) (fun _ hk => ⟨hk.1.1, ⟨hk.1.2.1, ⟨hk.2, ⟨hk.1.2.2.2.2.2.1, ⟨hk.1.2.2.2.2.2.2.1, hk.1.2.2.2.2.2.2.2⟩⟩⟩⟩⟩)), (Kd.V_mono (v_ HO_9) (fun _ hk => ⟨hk.1.1, ⟨hk.1.2.1, ⟨hk.2, ⟨hk.1.2.2.2.2.2.1, ⟨hk.1.2.2.2.2.2.2.1, hk.1.2.2.2.2.2.2.2⟩⟩⟩⟩⟩)), (b_ BK504), (b_ BK510), (b_ BK529), (hB_ w)⟩)
                     refine box_step ?hg (N := 14) ?hd (cs := #[.int .i64 0, .int .i64 0]) (t := 29) ?hr ?_; (case hd => rfl); (case hg => rfl); (case hr => first | (go_simp; done) | (go_simp; rfl))
                     intro gb545 hg w64 hbox hb
                     replace HO_1 := A_ (Kd.V_below (Kd.V_elderB (v_ HO_1) gb545 (Nat.le_of_eq hg.symm)) hb); replace HO_9 := A_ (Kd.V_below (Kd.V_elderB (v_ HO_9) gb545 (Nat.le_of_eq hg.symm)) hb); replace HO_530002 := A_ (Kd.R_below (r_ HO_530002) hb); replace HO_530003 := A_ (Kd.R_below (r_ HO_530003) hb); replace HO_530004 := A_ (Kd.R_below (r_ HO_530004) hb); replace HO532 := A_ (Kd.N_below (Kd.N_elderB (n_ HO532) gb545 (Nat.le_of_eq hg.symm)) hb); have BK545 := A_ hbox; have GW545 := A_ ((by rw [hg]; exact (below_size (hB_ w)) : w.heap.size ≤ gb545)); have GE545 := A_ ((by rw [hg]; exact (below_size (hB_ w)) : w.heap.size ≤ gb545)); replace HB := A_ (below_step (hB_ w) hb); have NB504_545 := A_ ((by rw [hg]; exact Nat.ne_of_lt (blk_lt (g := gb504) (b_ BK504)) : gb504 ≠ gb545)); have NB545_504 := A_ ((by rw [hg]; exact Nat.ne_of_gt (blk_lt (g := gb504) (b_ BK504)) : gb545 ≠ gb504)); replace BK504 := A_ (blk_below (g := gb504) (b_ BK504) hb); have NB510_545 := A_ ((by rw [hg]; exact Nat.ne_of_lt (blk_lt (g := gb510) (b_ BK510)) : gb510 ≠ gb545)); have NB545_510 := A_ ((by rw [hg]; exact Nat.ne_of_gt (blk_lt (g := gb510) (b_ BK510)) : gb545 ≠ gb510)); replace BK510 := A_ (blk_below (g := gb510) (b_ BK510) hb); have NB529_545 := A_ ((by rw [hg]; exact Nat.ne_of_lt (blk_lt (g := gb529) (b_ BK529)) : gb529 ≠ gb545)); have NB545_529 := A_ ((by rw [hg]; exact Nat.ne_of_gt (blk_lt (g := gb529) (b_ BK529)) : gb545 ≠ gb529)); replace BK529 := A_ (blk_below (g := gb529) (b_ BK529) hb); clear hb hbox hg
                     refine hK.out _ _ (tallysticklaw19_PlanMissing.held0_ BK504 BK529) (fun hHeld => ?_)
                     clear hK K
                     refine norm_ (a' := ?_) ?_ ?_
                     rotate_left
                     ·show Act.put _ (some 14) _ = _
                      simp only [Act.put, List.setIfInBounds_toArray, List.set_cons_zero, List.set_cons_succ, i64_w, i32_w]
                      rfl
                     exact norm_ (by first | (simp only [putAll, Act.put, List.setIfInBounds_toArray, List.set_cons_zero, List.set_cons_succ]; done) | (simp only [putAll, Act.put, List.setIfInBounds_toArray, List.set_cons_zero, List.set_cons_succ]; rfl)) (hJ1_11 (v531, gb545) _ ⟨hHeld, (Kd.N_mono (n_ HO532) (fun _ hk => ⟨hk.1.1, ⟨hk.1.2.1, ⟨hk.1.2.2.1, ⟨hk.1.2.2.2.1, ⟨hk.1.2.2.2.2.1, ⟨hk.1.2.2.2.2.2.1, ⟨hk.1.2.2.2.2.2.2, hk.2⟩⟩⟩⟩⟩⟩⟩)), (Kd.V_mono (v_ HO_1) (fun _ hk => ⟨hk.1.1, ⟨hk.1.2.1, ⟨hk.1.2.2.1, ⟨hk.1.2.2.2.1, ⟨hk.1.2.2.2.2.1, ⟨hk.1.2.2.2.2.2.1, ⟨hk.1.2.2.2.2.2.2.1, ⟨hk.1.2.2.2.2.2.2.2, hk.2⟩⟩⟩⟩⟩⟩⟩⟩)), (r_ HO_530002), (r_ HO_530003), (r_ HO_530004), (Kd.V_mono (v_ HO_9) (fun _ hk => ⟨hk.1.1, ⟨hk.1.2.1, ⟨hk.1.2.2.1, ⟨hk.1.2.2.2.1, ⟨hk.1.2.2.2.2.1, ⟨hk.1.2.2.2.2.2.1, ⟨hk.1.2.2.2.2.2.2.1, ⟨hk.1.2.2.2.2.2.2.2, hk.2⟩⟩⟩⟩⟩⟩⟩⟩)), (b_ BK504), (b_ BK510), (b_ BK529), (b_ BK545), GW545.out, GE545.out, NB504_545.out, NB545_504.out, NB510_545.out, NB545_510.out, NB529_545.out, NB545_529.out, (hB_ w)⟩)
                    rintro ⟨v537, gb545⟩ w64 ⟨hS_, h0_, h1_, h2_, h3_, h4_, h5_, h6_, h7_, h8_, h9_, h10_, h11_, h12_, h13_, h14_, h15_⟩
                    try dsimp only at h0_ h1_ h2_ h3_ h4_ h5_ h6_ h7_ h8_ h9_ h10_ h11_ h12_ h13_ h14_ h15_
                    have HO538 := A_ h0_; replace HO_1 := A_ h1_; replace HO_9 := A_ h2_; replace BK504 := A_ h3_; replace BK510 := A_ h4_; replace BK529 := A_ h5_; have BK545 := A_ h6_; have GW545 := A_ h7_; have GE545 := A_ h8_; have NB504_545 := A_ h9_; have NB545_504 := A_ h10_; have NB510_545 := A_ h11_; have NB545_510 := A_ h12_; have NB529_545 := A_ h13_; have NB545_529 := A_ h14_; replace HB := A_ h15_; clear HO_530002 HO_530003 HO_530004 h0_ h1_ h2_ h3_ h4_ h5_ h6_ h7_ h8_ h9_ h10_ h11_ h12_ h13_ h14_ h15_
                    have hHeld : w64.cell? ⟨gb504, 0, none⟩ = some (.int .i64 a0_0) ∧ w64.cell? ⟨gb504, 1, none⟩ = some (.int .i64 a0_1) ∧ w64.cell? ⟨gb504, 2, none⟩ = some (.int .i64 a0_2) ∧ w64.cell? ⟨gb529, 0, none⟩ = some (.int .i64 t516) ∧ w64.cell? ⟨gb529, 1, none⟩ = some (.int .i64 t517) ∧ w64.cell? ⟨gb529, 2, none⟩ = some (.slice Ao51 t518.length co51) ∧ w64.cell? ⟨gb529, 3, none⟩ = some (.slice Ao52 t521.length co52) ∧ w64.cell? ⟨gb529, 4, none⟩ = some (.slice Ao53 t524.length co53) ∧ w64.cell? ⟨gb529, 5, none⟩ = some (.bool t527) := hS_
                    refine norm_ (a' := ?_) ?_ ?_
                    rotate_left
                    ·simp only [putAll, Act.put, List.setIfInBounds_toArray, List.set_cons_zero, List.set_cons_succ]
                     rfl
                    refine one_ (i := 1) (N := some 68) #[true, true, true, false, true, true, false, false, false, false, false, true, false, false] rfl rfl (one_of HT_.out (by kernel_rfl)) (by decide) (fun K hK => ?_)
                    refine Kd.N_lit_step k41 _ 41 ?hg (N' := 68) ?hd (xs := ([] : List (S41))) (inner := []) (ok := (fun k_ => (P1_ k_ ∨ w.heap.size ≤ k_) ∧ some k_ ≠ (v537 : Value).ownBlock ∧ k_ ≠ gb504 ∧ k_ ≠ gb510 ∧ k_ ≠ gb529 ∧ k_ ≠ gb545)) (okp := (fun k_ => (P1_ k_ ∨ w.heap.size ≤ k_) ∧ some k_ ≠ (v537 : Value).ownBlock ∧ k_ ≠ gb504 ∧ k_ ≠ gb510 ∧ k_ ≠ gb529 ∧ k_ ≠ gb545)) ?hr ?hp (fun _ hk => hk) ((show ∀ k_, w64.heap.size ≤ k_ → (fun k_ => (P1_ k_ ∨ w.heap.size ≤ k_) ∧ some k_ ≠ (v537 : Value).ownBlock ∧ k_ ≠ gb504 ∧ k_ ≠ gb510 ∧ k_ ≠ gb529 ∧ k_ ≠ gb545) k_ from fun k_ hk => ⟨(.inr (Nat.le_trans (below_size (hB_ w)) hk)), Kd.fresh' (Kd.N_lt (n_ HO538)) k_ hk, Kd.freshB (g := gb504) (b_ BK504) k_ hk, Kd.freshB (g := gb510) (b_ BK510) k_ hk, Kd.freshB (g := gb529) (b_ BK529) k_ hk, Kd.freshB (g := gb545) (b_ BK545) k_ hk⟩) _ (Nat.le_refl _)) (Below.refl _ _) (Nat.le_refl _) (by simp) ?_; (case hd => rfl); (case hg => rfl); (case hr => first | (go_simp; done) | (go_simp; rfl)); (case hp => exact (Reps.none _ _))
                    intro v531 w65 ho66 hb hg_ hnew_
                    clear hg_ hnew_
                    (first | rw [← Ny530.out] at ho66 | (simp only [Int.reduceToNat] at ho66; rw [← Ny530.out] at ho66))
                    replace HO_1 := A_ (Kd.V_elder' (v_ HO_1) (Kd.N_base ho66) hb); replace HO_9 := A_ (Kd.V_elder' (v_ HO_9) (Kd.N_base ho66) hb); replace HO538 := A_ (Kd.N_elder' (n_ HO538) (Kd.N_base ho66) hb); have HO532 := A_ (Kd.N_lower ho66 (below_size (hB_ w))); replace BK504 := A_ (blk_below (g := gb504) (b_ BK504) hb); replace BK510 := A_ (blk_below (g := gb510) (b_ BK510) hb); replace BK529 := A_ (blk_below (g := gb529) (b_ BK529) hb); replace BK545 := A_ (blk_below (g := gb545) (b_ BK545) hb); replace HB := A_ (below_step (hB_ w) hb); clear hb ho66
                    refine hK.out _ _ (tallysticklaw19_PlanMissing.held0_ BK504 BK529) (fun hHeld => ?_)
                    clear hK K
                    refine norm_ (a' := ?_) ?_ ?_
                    rotate_left
                    ·show Act.put _ (some 68) _ = _
                     simp only [Act.put, List.setIfInBounds_toArray, List.set_cons_zero, List.set_cons_succ, i64_w, i32_w]
                     rfl
                    exact norm_ (by first | (simp only [putAll, Act.put, List.setIfInBounds_toArray, List.set_cons_zero, List.set_cons_succ]; done) | (simp only [putAll, Act.put, List.setIfInBounds_toArray, List.set_cons_zero, List.set_cons_succ]; rfl)) (hJ1_5_11 (v531, v537, gb545) _ ⟨hHeld, (n_ HO532), (Kd.N_mono (n_ HO538) (fun _ hk => ⟨hk.1.1, ⟨hk.2, ⟨hk.1.2.1, ⟨hk.1.2.2.1, ⟨hk.1.2.2.2.1, hk.1.2.2.2.2⟩⟩⟩⟩⟩)), (Kd.V_mono (v_ HO_1) (fun _ hk => ⟨hk.1.1, ⟨hk.2, ⟨hk.1.2.1, ⟨hk.1.2.2.1, ⟨hk.1.2.2.2.1, ⟨hk.1.2.2.2.2.1, hk.1.2.2.2.2.2⟩⟩⟩⟩⟩⟩)), (Kd.V_mono (v_ HO_9) (fun _ hk => ⟨hk.1.1, ⟨hk.2, ⟨hk.1.2.1, ⟨hk.1.2.2.1, ⟨hk.1.2.2.2.1, ⟨hk.1.2.2.2.2.1, hk.1.2.2.2.2.2⟩⟩⟩⟩⟩⟩)), (b_ BK504), (b_ BK510), (b_ BK529), (b_ BK545), GW545.out, GE545.out, NB504_545.out, NB545_504.out, NB510_545.out, NB545_510.out, NB529_545.out, NB545_529.out, (hB_ w)⟩)
                   rintro ⟨v531, gb545⟩ w64 ⟨hS_, h0_, h1_, h2_, h3_, h4_, h5_, h6_, h7_, h8_, h9_, h10_, h11_, h12_, h13_, h14_, h15_, h16_, h17_, h18_⟩
                   try dsimp only at h0_ h1_ h2_ h3_ h4_ h5_ h6_ h7_ h8_ h9_ h10_ h11_ h12_ h13_ h14_ h15_ h16_ h17_ h18_
                   have HO532 := A_ h0_; replace HO_1 := A_ h1_; replace HO_530002 := A_ h2_; replace HO_530003 := A_ h3_; replace HO_530004 := A_ h4_; replace HO_9 := A_ h5_; replace BK504 := A_ h6_; replace BK510 := A_ h7_; replace BK529 := A_ h8_; have BK545 := A_ h9_; have GW545 := A_ h10_; have GE545 := A_ h11_; have NB504_545 := A_ h12_; have NB545_504 := A_ h13_; have NB510_545 := A_ h14_; have NB545_510 := A_ h15_; have NB529_545 := A_ h16_; have NB545_529 := A_ h17_; replace HB := A_ h18_; clear h0_ h1_ h2_ h3_ h4_ h5_ h6_ h7_ h8_ h9_ h10_ h11_ h12_ h13_ h14_ h15_ h16_ h17_ h18_
                   have hHeld : w64.cell? ⟨gb504, 0, none⟩ = some (.int .i64 a0_0) ∧ w64.cell? ⟨gb504, 1, none⟩ = some (.int .i64 a0_1) ∧ w64.cell? ⟨gb504, 2, none⟩ = some (.int .i64 a0_2) ∧ w64.cell? ⟨gb529, 0, none⟩ = some (.int .i64 t516) ∧ w64.cell? ⟨gb529, 1, none⟩ = some (.int .i64 t517) ∧ w64.cell? ⟨gb529, 2, none⟩ = some (.slice Ao51 t518.length co51) ∧ w64.cell? ⟨gb529, 3, none⟩ = some (.slice Ao52 t521.length co52) ∧ w64.cell? ⟨gb529, 4, none⟩ = some (.slice Ao53 t524.length co53) ∧ w64.cell? ⟨gb529, 5, none⟩ = some (.bool t527) := hS_
                   refine norm_ (a' := ?_) ?_ ?_
                   rotate_left
                   ·simp only [putAll, Act.put, List.setIfInBounds_toArray, List.set_cons_zero, List.set_cons_succ]
                    rfl
                   refine two_ (i := 3) (j := 5) (Ni := some 70) (Nj := some 72) #[true, true, true, true, true, false, false, false, false, false, false, true, false, false] #[true, true, true, false, true, true, false, false, false, false, false, true, false, false] rfl rfl rfl rfl (two_of HT_.out (by kernel_rfl)) (by decide) (by decide) (fun K hK => ?_) (fun K hK => ?_)
                   ·skip
                    refine Kd.N_append_rows_step k41 (w0 := w) w.heap.size (by rfl) (.tmp 68) (.tmp 69) 35 41 (.agg #[(.int .i64 0), (.int .i64 0), (.slice none 0 0), (.slice none 0 0), (.slice none 0 0), (.bool false)]) 96 rfl Try.underlying35 info41 rfl (by decide) (by omega) v531 y530 l1 _ _ _ (fun k_ => (P1_ k_ ∨ w.heap.size ≤ k_) ∧ some k_ ≠ (.slice Ao51 t518.length co51 : Value).ownBlock ∧ some k_ ≠ (.slice Ao52 t521.length co52 : Value).ownBlock ∧ some k_ ≠ (.slice Ao53 t524.length co53 : Value).ownBlock ∧ k_ ≠ gb504 ∧ k_ ≠ gb510 ∧ k_ ≠ gb529 ∧ k_ ≠ gb545) (fun k_ => ((fun k_ => (P1_ k_ ∨ w.heap.size ≤ k_) ∧ some k_ ≠ (.slice Ao51 t518.length co51 : Value).ownBlock ∧ some k_ ≠ (.slice Ao52 t521.length co52 : Value).ownBlock ∧ some k_ ≠ (.slice Ao53 t524.length co53 : Value).ownBlock ∧ k_ ≠ gb504 ∧ k_ ≠ gb510 ∧ k_ ≠ gb529 ∧ k_ ≠ gb545)) k_ ∧ some k_ ≠ (v531 : Value).ownBlock) rfl rfl ?aO ?aR (fun _ hk => hk) ?aF ?aB ?aS ?aL ?_
                    (case aR => exact (by skip; exact Kd.V_F (Kd.V_mono (ok' := (fun k_ => ((fun k_ => (P1_ k_ ∨ w.heap.size ≤ k_) ∧ some k_ ≠ (.slice Ao51 t518.length co51 : Value).ownBlock ∧ some k_ ≠ (.slice Ao52 t521.length co52 : Value).ownBlock ∧ some k_ ≠ (.slice Ao53 t524.length co53 : Value).ownBlock ∧ k_ ≠ gb504 ∧ k_ ≠ gb510 ∧ k_ ≠ gb529 ∧ k_ ≠ gb545)) k_ ∧ some k_ ≠ (v531 : Value).ownBlock)) (HO_1.out) (fun k_ hk => ⟨⟨hk.1, ⟨hk.2.2.1, ⟨hk.2.2.2.1, ⟨hk.2.2.2.2.1, ⟨hk.2.2.2.2.2.1, ⟨hk.2.2.2.2.2.2.1, ⟨hk.2.2.2.2.2.2.2.1, hk.2.2.2.2.2.2.2.2⟩⟩⟩⟩⟩⟩⟩, hk.2.1⟩))))
                    (case aB => exact (hB_ w))
                    (case aF => exact (fun k_ hk => ⟨(.inr (Nat.le_trans (below_size (hB_ w)) hk)), Kd.fresh' (Kd.R_lt (r_ HO_530002)) k_ hk, Kd.fresh' (Kd.R_lt (r_ HO_530003)) k_ hk, Kd.fresh' (Kd.R_lt (r_ HO_530004)) k_ hk, Kd.freshB (g := gb504) (b_ BK504) k_ hk, Kd.freshB (g := gb510) (b_ BK510) k_ hk, Kd.freshB (g := gb529) (b_ BK529) k_ hk, Kd.freshB (g := gb545) (b_ BK545) k_ hk⟩))
                    (case aO => exact (n_ HO532))
                    (case aS => exact (below_size (hB_ w)))
                    (case aL => have := LMc56.out; omega)
                    intro v534 w65 ho hb hg hat
                    rw [← Ny533.out] at ho
                    replace HO_1 := A_ (Kd.V_afterv (ok := (fun k_ => (P1_ k_ ∨ w.heap.size ≤ k_) ∧ some k_ ≠ (.slice Ao51 t518.length co51 : Value).ownBlock ∧ some k_ ≠ (.slice Ao52 t521.length co52 : Value).ownBlock ∧ some k_ ≠ (.slice Ao53 t524.length co53 : Value).ownBlock ∧ k_ ≠ gb504 ∧ k_ ≠ gb510 ∧ k_ ≠ gb529 ∧ k_ ≠ gb545)) (Kd.V_mono (v_ HO_1) (fun _ hk => ⟨⟨hk.1, ⟨hk.2.2.1, ⟨hk.2.2.2.1, ⟨hk.2.2.2.2.1, ⟨hk.2.2.2.2.2.1, ⟨hk.2.2.2.2.2.2.1, ⟨hk.2.2.2.2.2.2.2.1, hk.2.2.2.2.2.2.2.2⟩⟩⟩⟩⟩⟩⟩, hk.2.1⟩)) hg hat); replace HO_9 := A_ (Kd.V_afterv (ok := (fun k_ => (P1_ k_ ∨ w.heap.size ≤ k_) ∧ some k_ ≠ (.slice Ao51 t518.length co51 : Value).ownBlock ∧ some k_ ≠ (.slice Ao52 t521.length co52 : Value).ownBlock ∧ some k_ ≠ (.slice Ao53 t524.length co53 : Value).ownBlock ∧ k_ ≠ gb504 ∧ k_ ≠ gb510 ∧ k_ ≠ gb529 ∧ k_ ≠ gb545)) (Kd.V_mono (v_ HO_9) (fun _ hk => ⟨⟨hk.1, ⟨hk.2.2.1, ⟨hk.2.2.2.1, ⟨hk.2.2.2.2.1, ⟨hk.2.2.2.2.2.1, ⟨hk.2.2.2.2.2.2.1, ⟨hk.2.2.2.2.2.2.2.1, hk.2.2.2.2.2.2.2.2⟩⟩⟩⟩⟩⟩⟩, hk.2.1⟩)) hg hat); replace HO_530002 := A_ (Kd.R_over' (r_ HO_530002) (Kd.N_typed (n_ HO532)) (by decide) hg); replace HO_530003 := A_ (Kd.R_over' (r_ HO_530003) (Kd.N_typed (n_ HO532)) (by decide) hg); replace HO_530004 := A_ (Kd.R_over' (r_ HO_530004) (Kd.N_typed (n_ HO532)) (by decide) hg); replace BK504 := A_ (blk_grown (g := gb504) (b_ BK504) hg (Kd.N_ne HO532.out BK504.out (by decide))); replace BK510 := A_ (blk_grown (g := gb510) (b_ BK510) hg (Kd.N_ne HO532.out BK510.out (by decide))); replace BK529 := A_ (blk_grown (g := gb529) (b_ BK529) hg (Kd.N_away HO532.out (fun _ hk => hk.2.2.2.2.2.2.1))); replace BK545 := A_ (blk_grown (g := gb545) (b_ BK545) hg (Kd.N_ne HO532.out BK545.out (by decide))); replace HB := A_ hb; have HO535 := A_ ho; clear HO532; clear ho hb hg hat
                    refine hK.out _ _ (tallysticklaw19_PlanMissing.held0_ BK504 BK529) (fun hHeld => ?_)
                    clear hK K
                    refine norm_ (a' := ?_) ?_ ?_
                    rotate_left
                    ·show Act.put _ (some 70) _ = _
                     simp only [Act.put, List.setIfInBounds_toArray, List.set_cons_zero, List.set_cons_succ, i64_w, i32_w]
                     rfl
                    exact norm_ (by first | (simp only [putAll, Act.put, List.setIfInBounds_toArray, List.set_cons_zero, List.set_cons_succ]; done) | (simp only [putAll, Act.put, List.setIfInBounds_toArray, List.set_cons_zero, List.set_cons_succ]; rfl)) (hJ1_3_11 (v531, v534, gb545) _ ⟨hHeld, (n_ HO535), (Kd.V_mono (v_ HO_1) (fun _ hk => ⟨hk.1.1, ⟨hk.2, ⟨hk.1.2.1, ⟨hk.1.2.2.1, ⟨hk.1.2.2.2.1, ⟨hk.1.2.2.2.2.1, ⟨hk.1.2.2.2.2.2.1, ⟨hk.1.2.2.2.2.2.2.1, hk.1.2.2.2.2.2.2.2⟩⟩⟩⟩⟩⟩⟩⟩)), (r_ HO_530002), (r_ HO_530003), (r_ HO_530004), (Kd.V_mono (v_ HO_9) (fun _ hk => ⟨hk.1.1, ⟨hk.2, ⟨hk.1.2.1, ⟨hk.1.2.2.1, ⟨hk.1.2.2.2.1, ⟨hk.1.2.2.2.2.1, ⟨hk.1.2.2.2.2.2.1, ⟨hk.1.2.2.2.2.2.2.1, hk.1.2.2.2.2.2.2.2⟩⟩⟩⟩⟩⟩⟩⟩)), (b_ BK504), (b_ BK510), (b_ BK529), (b_ BK545), GW545.out, GE545.out, NB504_545.out, NB545_504.out, NB510_545.out, NB545_510.out, NB529_545.out, NB545_529.out, (hB_ w)⟩)
                   refine Kd.N_lit_step k41 _ 41 ?hg (N' := 72) ?hd (xs := ([(⟨(⟨t516, t517⟩ : S29), t518, t521, t524, t527⟩ : S41)] : List (S41))) (inner := [.int .i64 t516, .int .i64 t517, .slice Ao51 t518.length co51, .slice Ao52 t521.length co52, .slice Ao53 t524.length co53, .bool t527]) (ok := (fun k_ => (P1_ k_ ∨ w.heap.size ≤ k_) ∧ some k_ ≠ (v531 : Value).ownBlock ∧ k_ ≠ gb504 ∧ k_ ≠ gb510 ∧ k_ ≠ gb529 ∧ k_ ≠ gb545)) (okp := (fun k_ => (P1_ k_ ∨ w.heap.size ≤ k_) ∧ some k_ ≠ (v531 : Value).ownBlock ∧ k_ ≠ gb504 ∧ k_ ≠ gb510 ∧ k_ ≠ gb529 ∧ k_ ≠ gb545)) ?hr ?hp (fun _ hk => hk) ((show ∀ k_, w64.heap.size ≤ k_ → (fun k_ => (P1_ k_ ∨ w.heap.size ≤ k_) ∧ some k_ ≠ (v531 : Value).ownBlock ∧ k_ ≠ gb504 ∧ k_ ≠ gb510 ∧ k_ ≠ gb529 ∧ k_ ≠ gb545) k_ from fun k_ hk => ⟨(.inr (Nat.le_trans (below_size (hB_ w)) hk)), Kd.fresh' (Kd.N_lt (n_ HO532)) k_ hk, Kd.freshB (g := gb504) (b_ BK504) k_ hk, Kd.freshB (g := gb510) (b_ BK510) k_ hk, Kd.freshB (g := gb529) (b_ BK529) k_ hk, Kd.freshB (g := gb545) (b_ BK545) k_ hk⟩) _ (Nat.le_refl _)) (Below.refl _ _) (Nat.le_refl _) (by simp) ?_; (case hd => rfl); (case hg => rfl); (case hr => first | (go_simp; done) | (go_simp; rfl)); (case hp => exact (Reps.c6 (show Kd.FK k41 _ _ (⟨(⟨t516, t517⟩ : S29), t518, t521, t524, t527⟩ : S41) [.int .i64 t516, .int .i64 t517, .slice Ao51 t518.length co51, .slice Ao52 t521.length co52, .slice Ao53 t524.length co53, .bool t527] from (k41_mkF _ _ (⟨(⟨t516, t517⟩ : S29), t518, t521, t524, t527⟩ : S41) (Kd.R_reads' (Kd.R_mono (ok' := (fun k_ => (P1_ k_ ∨ w.heap.size ≤ k_) ∧ some k_ ≠ (v531 : Value).ownBlock ∧ k_ ≠ gb504 ∧ k_ ≠ gb510 ∧ k_ ≠ gb529 ∧ k_ ≠ gb545)) (Kd.R_types (Kd.R_types (Kd.R_types (Kd.R_types (Kd.R_apart' (HO_530002.out) (Kd.N_typed HO532.out) (by decide)) BK504.out (by decide)) BK510.out (by decide)) BK529.out (by decide)) BK545.out (by decide)) (fun k_ hk => ⟨(.inr (hk.1.1.1.1.1.1)), ⟨hk.1.1.1.1.2, ⟨hk.1.1.1.2, ⟨hk.1.1.2, ⟨hk.1.2, hk.2⟩⟩⟩⟩⟩))).2.1 (Kd.R_F (Kd.R_mono (ok' := (fun k_ => (P1_ k_ ∨ w.heap.size ≤ k_) ∧ some k_ ≠ (v531 : Value).ownBlock ∧ k_ ≠ gb504 ∧ k_ ≠ gb510 ∧ k_ ≠ gb529 ∧ k_ ≠ gb545)) (Kd.R_types (Kd.R_types (Kd.R_types (Kd.R_types (Kd.R_apart' (HO_530002.out) (Kd.N_typed HO532.out) (by decide)) BK504.out (by decide)) BK510.out (by decide)) BK529.out (by decide)) BK545.out (by decide)) (fun k_ hk => ⟨(.inr (hk.1.1.1.1.1.1)), ⟨hk.1.1.1.1.2, ⟨hk.1.1.1.2, ⟨hk.1.1.2, ⟨hk.1.2, hk.2⟩⟩⟩⟩⟩))) (Kd.R_reads' (Kd.R_mono (ok' := (fun k_ => (P1_ k_ ∨ w.heap.size ≤ k_) ∧ some k_ ≠ (v531 : Value).ownBlock ∧ k_ ≠ gb504 ∧ k_ ≠ gb510 ∧ k_ ≠ gb529 ∧ k_ ≠ gb545)) (Kd.R_types (Kd.R_types (Kd.R_types (Kd.R_types (Kd.R_apart' (HO_530003.out) (Kd.N_typed HO532.out) (by decide)) BK504.out (by decide)) BK510.out (by decide)) BK529.out (by decide)) BK545.out (by decide)) (fun k_ hk => ⟨(.inr (hk.1.1.1.1.1.1)), ⟨hk.1.1.1.1.2, ⟨hk.1.1.1.2, ⟨hk.1.1.2, ⟨hk.1.2, hk.2⟩⟩⟩⟩⟩))).2.1 (Kd.R_F (Kd.R_mono (ok' := (fun k_ => (P1_ k_ ∨ w.heap.size ≤ k_) ∧ some k_ ≠ (v531 : Value).ownBlock ∧ k_ ≠ gb504 ∧ k_ ≠ gb510 ∧ k_ ≠ gb529 ∧ k_ ≠ gb545)) (Kd.R_types (Kd.R_types (Kd.R_types (Kd.R_types (Kd.R_apart' (HO_530003.out) (Kd.N_typed HO532.out) (by decide)) BK504.out (by decide)) BK510.out (by decide)) BK529.out (by decide)) BK545.out (by decide)) (fun k_ hk => ⟨(.inr (hk.1.1.1.1.1.1)), ⟨hk.1.1.1.1.2, ⟨hk.1.1.1.2, ⟨hk.1.1.2, ⟨hk.1.2, hk.2⟩⟩⟩⟩⟩))) (Kd.R_reads' (Kd.R_mono (ok' := (fun k_ => (P1_ k_ ∨ w.heap.size ≤ k_) ∧ some k_ ≠ (v531 : Value).ownBlock ∧ k_ ≠ gb504 ∧ k_ ≠ gb510 ∧ k_ ≠ gb529 ∧ k_ ≠ gb545)) (Kd.R_types (Kd.R_types (Kd.R_types (Kd.R_types (Kd.R_apart' (HO_530004.out) (Kd.N_typed HO532.out) (by decide)) BK504.out (by decide)) BK510.out (by decide)) BK529.out (by decide)) BK545.out (by decide)) (fun k_ hk => ⟨(.inr (hk.1.1.1.1.1.1)), ⟨hk.1.1.1.1.2, ⟨hk.1.1.1.2, ⟨hk.1.1.2, ⟨hk.1.2, hk.2⟩⟩⟩⟩⟩))).2.1 (Kd.R_F (Kd.R_mono (ok' := (fun k_ => (P1_ k_ ∨ w.heap.size ≤ k_) ∧ some k_ ≠ (v531 : Value).ownBlock ∧ k_ ≠ gb504 ∧ k_ ≠ gb510 ∧ k_ ≠ gb529 ∧ k_ ≠ gb545)) (Kd.R_types (Kd.R_types (Kd.R_types (Kd.R_types (Kd.R_apart' (HO_530004.out) (Kd.N_typed HO532.out) (by decide)) BK504.out (by decide)) BK510.out (by decide)) BK529.out (by decide)) BK545.out (by decide)) (fun k_ hk => ⟨(.inr (hk.1.1.1.1.1.1)), ⟨hk.1.1.1.1.2, ⟨hk.1.1.1.2, ⟨hk.1.1.2, ⟨hk.1.2, hk.2⟩⟩⟩⟩⟩))))) (Reps.none _ _)))
                   intro v537 w65 ho66 hb hg_ hnew_
                   clear hg_ hnew_
                   (first | rw [← Ny536.out] at ho66 | (simp only [Int.reduceToNat] at ho66; rw [← Ny536.out] at ho66))
                   replace HO_1 := A_ (Kd.V_elder' (v_ HO_1) (Kd.N_base ho66) hb); replace HO_9 := A_ (Kd.V_elder' (v_ HO_9) (Kd.N_base ho66) hb); replace HO532 := A_ (Kd.N_elder' (n_ HO532) (Kd.N_base ho66) hb); have HO538 := A_ (Kd.N_lower ho66 (below_size (hB_ w))); replace BK504 := A_ (blk_below (g := gb504) (b_ BK504) hb); replace BK510 := A_ (blk_below (g := gb510) (b_ BK510) hb); replace BK529 := A_ (blk_below (g := gb529) (b_ BK529) hb); replace BK545 := A_ (blk_below (g := gb545) (b_ BK545) hb); replace HB := A_ (below_step (hB_ w) hb); clear HO_530002 HO_530003 HO_530004; clear hb ho66
                   refine hK.out _ _ (tallysticklaw19_PlanMissing.held0_ BK504 BK529) (fun hHeld => ?_)
                   clear hK K
                   refine norm_ (a' := ?_) ?_ ?_
                   rotate_left
                   ·show Act.put _ (some 72) _ = _
                    simp only [Act.put, List.setIfInBounds_toArray, List.set_cons_zero, List.set_cons_succ, i64_w, i32_w]
                    rfl
                   exact norm_ (by first | (simp only [putAll, Act.put, List.setIfInBounds_toArray, List.set_cons_zero, List.set_cons_succ]; done) | (simp only [putAll, Act.put, List.setIfInBounds_toArray, List.set_cons_zero, List.set_cons_succ]; rfl)) (hJ1_5_11 (v531, v537, gb545) _ ⟨hHeld, (Kd.N_mono (n_ HO532) (fun _ hk => ⟨hk.1.1, ⟨hk.2, ⟨hk.1.2.2.2.2.1, ⟨hk.1.2.2.2.2.2.1, ⟨hk.1.2.2.2.2.2.2.1, hk.1.2.2.2.2.2.2.2⟩⟩⟩⟩⟩)), (n_ HO538), (Kd.V_mono (v_ HO_1) (fun _ hk => ⟨hk.1.1, ⟨hk.1.2.1, ⟨hk.2, ⟨hk.1.2.2.2.2.2.1, ⟨hk.1.2.2.2.2.2.2.1, ⟨hk.1.2.2.2.2.2.2.2.1, hk.1.2.2.2.2.2.2.2.2⟩⟩⟩⟩⟩⟩)), (Kd.V_mono (v_ HO_9) (fun _ hk => ⟨hk.1.1, ⟨hk.1.2.1, ⟨hk.2, ⟨hk.1.2.2.2.2.2.1, ⟨hk.1.2.2.2.2.2.2.1, ⟨hk.1.2.2.2.2.2.2.2.1, hk.1.2.2.2.2.2.2.2.2⟩⟩⟩⟩⟩⟩)), (b_ BK504), (b_ BK510), (b_ BK529), (b_ BK545), GW545.out, GE545.out, NB504_545.out, NB545_504.out, NB510_545.out, NB545_510.out, NB529_545.out, NB545_529.out, (hB_ w)⟩)
                  rintro ⟨v531, v537⟩ w65 ⟨hS_, h0_, h1_, h2_, h3_, h4_, h5_, h6_, h7_⟩
                  try dsimp only at h0_ h1_ h2_ h3_ h4_ h5_ h6_ h7_
                  have HO532 := A_ h0_; have HO538 := A_ h1_; replace HO_1 := A_ h2_; replace HO_9 := A_ h3_; replace BK504 := A_ h4_; replace BK510 := A_ h5_; replace BK529 := A_ h6_; replace HB := A_ h7_; clear HO_530002 HO_530003 HO_530004 h0_ h1_ h2_ h3_ h4_ h5_ h6_ h7_
                  have hHeld : w65.cell? ⟨gb504, 0, none⟩ = some (.int .i64 a0_0) ∧ w65.cell? ⟨gb504, 1, none⟩ = some (.int .i64 a0_1) ∧ w65.cell? ⟨gb504, 2, none⟩ = some (.int .i64 a0_2) ∧ w65.cell? ⟨gb529, 0, none⟩ = some (.int .i64 t516) ∧ w65.cell? ⟨gb529, 1, none⟩ = some (.int .i64 t517) ∧ w65.cell? ⟨gb529, 2, none⟩ = some (.slice Ao51 t518.length co51) ∧ w65.cell? ⟨gb529, 3, none⟩ = some (.slice Ao52 t521.length co52) ∧ w65.cell? ⟨gb529, 4, none⟩ = some (.slice Ao53 t524.length co53) ∧ w65.cell? ⟨gb529, 5, none⟩ = some (.bool t527) := hS_
                  refine norm_ (a' := ?_) ?_ ?_
                  rotate_left
                  ·simp only [putAll, Act.put, List.setIfInBounds_toArray, List.set_cons_zero, List.set_cons_succ]
                   rfl
                  refine two_ (i := 3) (j := 11) (Ni := some 70) (Nj := some 14) #[true, true, true, true, true, true, false, false, false, false, false, false, false, false] #[true, true, true, false, true, true, false, false, false, false, false, true, false, false] rfl rfl rfl rfl (two_of HT_.out (by kernel_rfl)) (by decide) (by decide) (fun K hK => ?_) (fun K hK => ?_)
                  ·skip
                   refine Kd.N_append_rows_step k41 (w0 := w) w.heap.size (by rfl) (.tmp 68) (.tmp 69) 35 41 (.agg #[(.int .i64 0), (.int .i64 0), (.slice none 0 0), (.slice none 0 0), (.slice none 0 0), (.bool false)]) 96 rfl Try.underlying35 info41 rfl (by decide) (by omega) v531 y530 l1 _ _ _ (fun k_ => (P1_ k_ ∨ w.heap.size ≤ k_) ∧ some k_ ≠ (v537 : Value).ownBlock ∧ k_ ≠ gb504 ∧ k_ ≠ gb510 ∧ k_ ≠ gb529) (fun k_ => ((fun k_ => (P1_ k_ ∨ w.heap.size ≤ k_) ∧ some k_ ≠ (v537 : Value).ownBlock ∧ k_ ≠ gb504 ∧ k_ ≠ gb510 ∧ k_ ≠ gb529)) k_ ∧ some k_ ≠ (v531 : Value).ownBlock) rfl rfl ?aO ?aR (fun _ hk => hk) ?aF ?aB ?aS ?aL ?_
                   (case aR => exact (by skip; exact Kd.V_F (Kd.V_mono (ok' := (fun k_ => ((fun k_ => (P1_ k_ ∨ w.heap.size ≤ k_) ∧ some k_ ≠ (v537 : Value).ownBlock ∧ k_ ≠ gb504 ∧ k_ ≠ gb510 ∧ k_ ≠ gb529)) k_ ∧ some k_ ≠ (v531 : Value).ownBlock)) (HO_1.out) (fun k_ hk => ⟨⟨hk.1, ⟨hk.2.2.1, ⟨hk.2.2.2.1, ⟨hk.2.2.2.2.1, hk.2.2.2.2.2⟩⟩⟩⟩, hk.2.1⟩))))
                   (case aB => exact (hB_ w))
                   (case aF => exact (fun k_ hk => ⟨(.inr (Nat.le_trans (below_size (hB_ w)) hk)), Kd.fresh' (Kd.N_lt (n_ HO538)) k_ hk, Kd.freshB (g := gb504) (b_ BK504) k_ hk, Kd.freshB (g := gb510) (b_ BK510) k_ hk, Kd.freshB (g := gb529) (b_ BK529) k_ hk⟩))
                   (case aO => exact (n_ HO532))
                   (case aS => exact (below_size (hB_ w)))
                   (case aL => have := LMc56.out; omega)
                   intro v534 w66 ho hb hg hat
                   rw [← Ny533.out] at ho
                   replace HO_1 := A_ (Kd.V_afterv (ok := (fun k_ => (P1_ k_ ∨ w.heap.size ≤ k_) ∧ some k_ ≠ (v537 : Value).ownBlock ∧ k_ ≠ gb504 ∧ k_ ≠ gb510 ∧ k_ ≠ gb529)) (Kd.V_mono (v_ HO_1) (fun _ hk => ⟨⟨hk.1, ⟨hk.2.2.1, ⟨hk.2.2.2.1, ⟨hk.2.2.2.2.1, hk.2.2.2.2.2⟩⟩⟩⟩, hk.2.1⟩)) hg hat); replace HO_9 := A_ (Kd.V_afterv (ok := (fun k_ => (P1_ k_ ∨ w.heap.size ≤ k_) ∧ some k_ ≠ (v537 : Value).ownBlock ∧ k_ ≠ gb504 ∧ k_ ≠ gb510 ∧ k_ ≠ gb529)) (Kd.V_mono (v_ HO_9) (fun _ hk => ⟨⟨hk.1, ⟨hk.2.2.1, ⟨hk.2.2.2.1, ⟨hk.2.2.2.2.1, hk.2.2.2.2.2⟩⟩⟩⟩, hk.2.1⟩)) hg hat); replace BK504 := A_ (blk_grown (g := gb504) (b_ BK504) hg (Kd.N_ne HO532.out BK504.out (by decide))); replace BK510 := A_ (blk_grown (g := gb510) (b_ BK510) hg (Kd.N_ne HO532.out BK510.out (by decide))); replace BK529 := A_ (blk_grown (g := gb529) (b_ BK529) hg (Kd.N_away HO532.out (fun _ hk => hk.2.2.2.2))); replace HO538 := A_ (Kd.N_afterv (ok := (fun k_ => (P1_ k_ ∨ w.heap.size ≤ k_) ∧ k_ ≠ gb504 ∧ k_ ≠ gb510 ∧ k_ ≠ gb529)) (Kd.N_mono (n_ HO538) (fun _ hk => ⟨⟨hk.1, ⟨hk.2.2.1, ⟨hk.2.2.2.1, hk.2.2.2.2⟩⟩⟩, hk.2.1⟩)) hg hat); replace HB := A_ hb; have HO535 := A_ ho; clear HO532; clear ho hb hg hat
                   refine hK.out _ _ (tallysticklaw19_PlanMissing.held0_ BK504 BK529) (fun hHeld => ?_)
                   clear hK K
                   refine norm_ (a' := ?_) ?_ ?_
                   rotate_left
                   ·show Act.put _ (some 70) _ = _
                    simp only [Act.put, List.setIfInBounds_toArray, List.set_cons_zero, List.set_cons_succ, i64_w, i32_w]
                    rfl
                   exact norm_ (by first | (simp only [putAll, Act.put, List.setIfInBounds_toArray, List.set_cons_zero, List.set_cons_succ]; done) | (simp only [putAll, Act.put, List.setIfInBounds_toArray, List.set_cons_zero, List.set_cons_succ]; rfl)) (hJ1_3_5 (v531, v534, v537) _ ⟨hHeld, (n_ HO535), (Kd.N_mono (n_ HO538) (fun _ hk => ⟨hk.1.1, ⟨hk.2, ⟨hk.1.2.1, ⟨hk.1.2.2.1, hk.1.2.2.2⟩⟩⟩⟩)), (Kd.V_mono (v_ HO_1) (fun _ hk => ⟨hk.1.1, ⟨hk.2, ⟨hk.1.2.1, ⟨hk.1.2.2.1, ⟨hk.1.2.2.2.1, hk.1.2.2.2.2⟩⟩⟩⟩⟩)), (Kd.V_mono (v_ HO_9) (fun _ hk => ⟨hk.1.1, ⟨hk.2, ⟨hk.1.2.1, ⟨hk.1.2.2.1, ⟨hk.1.2.2.2.1, hk.1.2.2.2.2⟩⟩⟩⟩⟩)), (b_ BK504), (b_ BK510), (b_ BK529), (hB_ w)⟩)
                  refine box_step ?hg (N := 14) ?hd (cs := #[.int .i64 0, .int .i64 0]) (t := 29) ?hr ?_; (case hd => rfl); (case hg => rfl); (case hr => first | (go_simp; done) | (go_simp; rfl))
                  intro gb545 hg w66 hbox hb
                  replace HO_1 := A_ (Kd.V_below (Kd.V_elderB (v_ HO_1) gb545 (Nat.le_of_eq hg.symm)) hb); replace HO_9 := A_ (Kd.V_below (Kd.V_elderB (v_ HO_9) gb545 (Nat.le_of_eq hg.symm)) hb); replace HO532 := A_ (Kd.N_below (Kd.N_elderB (n_ HO532) gb545 (Nat.le_of_eq hg.symm)) hb); replace HO538 := A_ (Kd.N_below (Kd.N_elderB (n_ HO538) gb545 (Nat.le_of_eq hg.symm)) hb); have BK545 := A_ hbox; have GW545 := A_ ((by rw [hg]; exact (below_size (hB_ w)) : w.heap.size ≤ gb545)); have GE545 := A_ ((by rw [hg]; exact (below_size (hB_ w)) : w.heap.size ≤ gb545)); replace HB := A_ (below_step (hB_ w) hb); have NB504_545 := A_ ((by rw [hg]; exact Nat.ne_of_lt (blk_lt (g := gb504) (b_ BK504)) : gb504 ≠ gb545)); have NB545_504 := A_ ((by rw [hg]; exact Nat.ne_of_gt (blk_lt (g := gb504) (b_ BK504)) : gb545 ≠ gb504)); replace BK504 := A_ (blk_below (g := gb504) (b_ BK504) hb); have NB510_545 := A_ ((by rw [hg]; exact Nat.ne_of_lt (blk_lt (g := gb510) (b_ BK510)) : gb510 ≠ gb545)); have NB545_510 := A_ ((by rw [hg]; exact Nat.ne_of_gt (blk_lt (g := gb510) (b_ BK510)) : gb545 ≠ gb510)); replace BK510 := A_ (blk_below (g := gb510) (b_ BK510) hb); have NB529_545 := A_ ((by rw [hg]; exact Nat.ne_of_lt (blk_lt (g := gb529) (b_ BK529)) : gb529 ≠ gb545)); have NB545_529 := A_ ((by rw [hg]; exact Nat.ne_of_gt (blk_lt (g := gb529) (b_ BK529)) : gb545 ≠ gb529)); replace BK529 := A_ (blk_below (g := gb529) (b_ BK529) hb); clear hb hbox hg
                  refine hK.out _ _ (tallysticklaw19_PlanMissing.held0_ BK504 BK529) (fun hHeld => ?_)
                  clear hK K
                  refine norm_ (a' := ?_) ?_ ?_
                  rotate_left
                  ·show Act.put _ (some 14) _ = _
                   simp only [Act.put, List.setIfInBounds_toArray, List.set_cons_zero, List.set_cons_succ, i64_w, i32_w]
                   rfl
                  exact norm_ (by first | (simp only [putAll, Act.put, List.setIfInBounds_toArray, List.set_cons_zero, List.set_cons_succ]; done) | (simp only [putAll, Act.put, List.setIfInBounds_toArray, List.set_cons_zero, List.set_cons_succ]; rfl)) (hJ1_5_11 (v531, v537, gb545) _ ⟨hHeld, (Kd.N_mono (n_ HO532) (fun _ hk => ⟨hk.1.1, ⟨hk.1.2.1, ⟨hk.1.2.2.1, ⟨hk.1.2.2.2.1, ⟨hk.1.2.2.2.2, hk.2⟩⟩⟩⟩⟩)), (Kd.N_mono (n_ HO538) (fun _ hk => ⟨hk.1.1, ⟨hk.1.2.1, ⟨hk.1.2.2.1, ⟨hk.1.2.2.2.1, ⟨hk.1.2.2.2.2, hk.2⟩⟩⟩⟩⟩)), (Kd.V_mono (v_ HO_1) (fun _ hk => ⟨hk.1.1, ⟨hk.1.2.1, ⟨hk.1.2.2.1, ⟨hk.1.2.2.2.1, ⟨hk.1.2.2.2.2.1, ⟨hk.1.2.2.2.2.2, hk.2⟩⟩⟩⟩⟩⟩)), (Kd.V_mono (v_ HO_9) (fun _ hk => ⟨hk.1.1, ⟨hk.1.2.1, ⟨hk.1.2.2.1, ⟨hk.1.2.2.2.1, ⟨hk.1.2.2.2.2.1, ⟨hk.1.2.2.2.2.2, hk.2⟩⟩⟩⟩⟩⟩)), (b_ BK504), (b_ BK510), (b_ BK529), (b_ BK545), GW545.out, GE545.out, NB504_545.out, NB545_504.out, NB510_545.out, NB545_510.out, NB529_545.out, NB545_529.out, (hB_ w)⟩)
                 rintro ⟨v531, v534⟩ w64 ⟨hS_, h0_, h1_, h2_, h3_, h4_, h5_, h6_, h7_, h8_, h9_⟩
                 try dsimp only at h0_ h1_ h2_ h3_ h4_ h5_ h6_ h7_ h8_ h9_
                 have HO535 := A_ h0_; replace HO_1 := A_ h1_; replace HO_530002 := A_ h2_; replace HO_530003 := A_ h3_; replace HO_530004 := A_ h4_; replace HO_9 := A_ h5_; replace BK504 := A_ h6_; replace BK510 := A_ h7_; replace BK529 := A_ h8_; replace HB := A_ h9_; clear h0_ h1_ h2_ h3_ h4_ h5_ h6_ h7_ h8_ h9_
                 have hHeld : w64.cell? ⟨gb504, 0, none⟩ = some (.int .i64 a0_0) ∧ w64.cell? ⟨gb504, 1, none⟩ = some (.int .i64 a0_1) ∧ w64.cell? ⟨gb504, 2, none⟩ = some (.int .i64 a0_2) ∧ w64.cell? ⟨gb529, 0, none⟩ = some (.int .i64 t516) ∧ w64.cell? ⟨gb529, 1, none⟩ = some (.int .i64 t517) ∧ w64.cell? ⟨gb529, 2, none⟩ = some (.slice Ao51 t518.length co51) ∧ w64.cell? ⟨gb529, 3, none⟩ = some (.slice Ao52 t521.length co52) ∧ w64.cell? ⟨gb529, 4, none⟩ = some (.slice Ao53 t524.length co53) ∧ w64.cell? ⟨gb529, 5, none⟩ = some (.bool t527) := hS_
                 refine norm_ (a' := ?_) ?_ ?_
                 rotate_left
                 ·simp only [putAll, Act.put, List.setIfInBounds_toArray, List.set_cons_zero, List.set_cons_succ]
                  rfl
                 refine two_ (i := 5) (j := 11) (Ni := some 72) (Nj := some 14) #[true, true, true, true, true, true, false, false, false, false, false, false, false, false] #[true, true, true, true, true, false, false, false, false, false, false, true, false, false] rfl rfl rfl rfl (two_of HT_.out (by kernel_rfl)) (by decide) (by decide) (fun K hK => ?_) (fun K hK => ?_)
                 ·skip
                  refine Kd.N_lit_step k41 _ 41 ?hg (N' := 72) ?hd (xs := ([(⟨(⟨t516, t517⟩ : S29), t518, t521, t524, t527⟩ : S41)] : List (S41))) (inner := [.int .i64 t516, .int .i64 t517, .slice Ao51 t518.length co51, .slice Ao52 t521.length co52, .slice Ao53 t524.length co53, .bool t527]) (ok := (fun k_ => (P1_ k_ ∨ w.heap.size ≤ k_) ∧ some k_ ≠ (v534 : Value).ownBlock ∧ k_ ≠ gb504 ∧ k_ ≠ gb510 ∧ k_ ≠ gb529)) (okp := (fun k_ => (P1_ k_ ∨ w.heap.size ≤ k_) ∧ some k_ ≠ (v534 : Value).ownBlock ∧ k_ ≠ gb504 ∧ k_ ≠ gb510 ∧ k_ ≠ gb529)) ?hr ?hp (fun _ hk => hk) ((show ∀ k_, w64.heap.size ≤ k_ → (fun k_ => (P1_ k_ ∨ w.heap.size ≤ k_) ∧ some k_ ≠ (v534 : Value).ownBlock ∧ k_ ≠ gb504 ∧ k_ ≠ gb510 ∧ k_ ≠ gb529) k_ from fun k_ hk => ⟨(.inr (Nat.le_trans (below_size (hB_ w)) hk)), Kd.fresh' (Kd.N_lt (n_ HO535)) k_ hk, Kd.freshB (g := gb504) (b_ BK504) k_ hk, Kd.freshB (g := gb510) (b_ BK510) k_ hk, Kd.freshB (g := gb529) (b_ BK529) k_ hk⟩) _ (Nat.le_refl _)) (Below.refl _ _) (Nat.le_refl _) (by simp) ?_; (case hd => rfl); (case hg => rfl); (case hr => first | (go_simp; done) | (go_simp; rfl)); (case hp => exact (Reps.c6 (show Kd.FK k41 _ _ (⟨(⟨t516, t517⟩ : S29), t518, t521, t524, t527⟩ : S41) [.int .i64 t516, .int .i64 t517, .slice Ao51 t518.length co51, .slice Ao52 t521.length co52, .slice Ao53 t524.length co53, .bool t527] from (k41_mkF _ _ (⟨(⟨t516, t517⟩ : S29), t518, t521, t524, t527⟩ : S41) (Kd.R_reads' (Kd.R_mono (ok' := (fun k_ => (P1_ k_ ∨ w.heap.size ≤ k_) ∧ some k_ ≠ (v534 : Value).ownBlock ∧ k_ ≠ gb504 ∧ k_ ≠ gb510 ∧ k_ ≠ gb529)) (Kd.R_types (Kd.R_types (Kd.R_types (Kd.R_apart' (HO_530002.out) (Kd.N_typed HO535.out) (by decide)) BK504.out (by decide)) BK510.out (by decide)) BK529.out (by decide)) (fun k_ hk => ⟨(.inr (hk.1.1.1.1.1)), ⟨hk.1.1.1.2, ⟨hk.1.1.2, ⟨hk.1.2, hk.2⟩⟩⟩⟩))).2.1 (Kd.R_F (Kd.R_mono (ok' := (fun k_ => (P1_ k_ ∨ w.heap.size ≤ k_) ∧ some k_ ≠ (v534 : Value).ownBlock ∧ k_ ≠ gb504 ∧ k_ ≠ gb510 ∧ k_ ≠ gb529)) (Kd.R_types (Kd.R_types (Kd.R_types (Kd.R_apart' (HO_530002.out) (Kd.N_typed HO535.out) (by decide)) BK504.out (by decide)) BK510.out (by decide)) BK529.out (by decide)) (fun k_ hk => ⟨(.inr (hk.1.1.1.1.1)), ⟨hk.1.1.1.2, ⟨hk.1.1.2, ⟨hk.1.2, hk.2⟩⟩⟩⟩))) (Kd.R_reads' (Kd.R_mono (ok' := (fun k_ => (P1_ k_ ∨ w.heap.size ≤ k_) ∧ some k_ ≠ (v534 : Value).ownBlock ∧ k_ ≠ gb504 ∧ k_ ≠ gb510 ∧ k_ ≠ gb529)) (Kd.R_types (Kd.R_types (Kd.R_types (Kd.R_apart' (HO_530003.out) (Kd.N_typed HO535.out) (by decide)) BK504.out (by decide)) BK510.out (by decide)) BK529.out (by decide)) (fun k_ hk => ⟨(.inr (hk.1.1.1.1.1)), ⟨hk.1.1.1.2, ⟨hk.1.1.2, ⟨hk.1.2, hk.2⟩⟩⟩⟩))).2.1 (Kd.R_F (Kd.R_mono (ok' := (fun k_ => (P1_ k_ ∨ w.heap.size ≤ k_) ∧ some k_ ≠ (v534 : Value).ownBlock ∧ k_ ≠ gb504 ∧ k_ ≠ gb510 ∧ k_ ≠ gb529)) (Kd.R_types (Kd.R_types (Kd.R_types (Kd.R_apart' (HO_530003.out) (Kd.N_typed HO535.out) (by decide)) BK504.out (by decide)) BK510.out (by decide)) BK529.out (by decide)) (fun k_ hk => ⟨(.inr (hk.1.1.1.1.1)), ⟨hk.1.1.1.2, ⟨hk.1.1.2, ⟨hk.1.2, hk.2⟩⟩⟩⟩))) (Kd.R_reads' (Kd.R_mono (ok' := (fun k_ => (P1_ k_ ∨ w.heap.size ≤ k_) ∧ some k_ ≠ (v534 : Value).ownBlock ∧ k_ ≠ gb504 ∧ k_ ≠ gb510 ∧ k_ ≠ gb529)) (Kd.R_types (Kd.R_types (Kd.R_types (Kd.R_apart' (HO_530004.out) (Kd.N_typed HO535.out) (by decide)) BK504.out (by decide)) BK510.out (by decide)) BK529.out (by decide)) (fun k_ hk => ⟨(.inr (hk.1.1.1.1.1)), ⟨hk.1.1.1.2, ⟨hk.1.1.2, ⟨hk.1.2, hk.2⟩⟩⟩⟩))).2.1 (Kd.R_F (Kd.R_mono (ok' := (fun k_ => (P1_ k_ ∨ w.heap.size ≤ k_) ∧ some k_ ≠ (v534 : Value).ownBlock ∧ k_ ≠ gb504 ∧ k_ ≠ gb510 ∧ k_ ≠ gb529)) (Kd.R_types (Kd.R_types (Kd.R_types (Kd.R_apart' (HO_530004.out) (Kd.N_typed HO535.out) (by decide)) BK504.out (by decide)) BK510.out (by decide)) BK529.out (by decide)) (fun k_ hk => ⟨(.inr (hk.1.1.1.1.1)), ⟨hk.1.1.1.2, ⟨hk.1.1.2, ⟨hk.1.2, hk.2⟩⟩⟩⟩))))) (Reps.none _ _)))
                  intro v537 w65 ho66 hb hg_ hnew_
                  clear hg_ hnew_
                  (first | rw [← Ny536.out] at ho66 | (simp only [Int.reduceToNat] at ho66; rw [← Ny536.out] at ho66))
                  replace HO_1 := A_ (Kd.V_elder' (v_ HO_1) (Kd.N_base ho66) hb); replace HO_9 := A_ (Kd.V_elder' (v_ HO_9) (Kd.N_base ho66) hb); replace HO535 := A_ (Kd.N_elder' (n_ HO535) (Kd.N_base ho66) hb); have HO538 := A_ (Kd.N_lower ho66 (below_size (hB_ w))); replace BK504 := A_ (blk_below (g := gb504) (b_ BK504) hb); replace BK510 := A_ (blk_below (g := gb510) (b_ BK510) hb); replace BK529 := A_ (blk_below (g := gb529) (b_ BK529) hb); replace HB := A_ (below_step (hB_ w) hb); clear HO_530002 HO_530003 HO_530004; clear hb ho66
                  refine hK.out _ _ (tallysticklaw19_PlanMissing.held0_ BK504 BK529) (fun hHeld => ?_)
                  clear hK K
                  refine norm_ (a' := ?_) ?_ ?_
                  rotate_left
                  ·show Act.put _ (some 72) _ = _
                   simp only [Act.put, List.setIfInBounds_toArray, List.set_cons_zero, List.set_cons_succ, i64_w, i32_w]
                   rfl
                  exact norm_ (by first | (simp only [putAll, Act.put, List.setIfInBounds_toArray, List.set_cons_zero, List.set_cons_succ]; done) | (simp only [putAll, Act.put, List.setIfInBounds_toArray, List.set_cons_zero, List.set_cons_succ]; rfl)) (hJ1_3_5 (v531, v534, v537) _ ⟨hHeld, (Kd.N_mono (n_ HO535) (fun _ hk => ⟨hk.1.1, ⟨hk.2, ⟨hk.1.2.2.2.2.1, ⟨hk.1.2.2.2.2.2.1, hk.1.2.2.2.2.2.2⟩⟩⟩⟩)), (n_ HO538), (Kd.V_mono (v_ HO_1) (fun _ hk => ⟨hk.1.1, ⟨hk.1.2.1, ⟨hk.2, ⟨hk.1.2.2.2.2.2.1, ⟨hk.1.2.2.2.2.2.2.1, hk.1.2.2.2.2.2.2.2⟩⟩⟩⟩⟩)), (Kd.V_mono (v_ HO_9) (fun _ hk => ⟨hk.1.1, ⟨hk.1.2.1, ⟨hk.2, ⟨hk.1.2.2.2.2.2.1, ⟨hk.1.2.2.2.2.2.2.1, hk.1.2.2.2.2.2.2.2⟩⟩⟩⟩⟩)), (b_ BK504), (b_ BK510), (b_ BK529), (hB_ w)⟩)
                 refine box_step ?hg (N := 14) ?hd (cs := #[.int .i64 0, .int .i64 0]) (t := 29) ?hr ?_; (case hd => rfl); (case hg => rfl); (case hr => first | (go_simp; done) | (go_simp; rfl))
                 intro gb545 hg w65 hbox hb
                 replace HO_1 := A_ (Kd.V_below (Kd.V_elderB (v_ HO_1) gb545 (Nat.le_of_eq hg.symm)) hb); replace HO_9 := A_ (Kd.V_below (Kd.V_elderB (v_ HO_9) gb545 (Nat.le_of_eq hg.symm)) hb); replace HO_530002 := A_ (Kd.R_below (r_ HO_530002) hb); replace HO_530003 := A_ (Kd.R_below (r_ HO_530003) hb); replace HO_530004 := A_ (Kd.R_below (r_ HO_530004) hb); replace HO535 := A_ (Kd.N_below (Kd.N_elderB (n_ HO535) gb545 (Nat.le_of_eq hg.symm)) hb); have BK545 := A_ hbox; have GW545 := A_ ((by rw [hg]; exact (below_size (hB_ w)) : w.heap.size ≤ gb545)); have GE545 := A_ ((by rw [hg]; exact (below_size (hB_ w)) : w.heap.size ≤ gb545)); replace HB := A_ (below_step (hB_ w) hb); have NB504_545 := A_ ((by rw [hg]; exact Nat.ne_of_lt (blk_lt (g := gb504) (b_ BK504)) : gb504 ≠ gb545)); have NB545_504 := A_ ((by rw [hg]; exact Nat.ne_of_gt (blk_lt (g := gb504) (b_ BK504)) : gb545 ≠ gb504)); replace BK504 := A_ (blk_below (g := gb504) (b_ BK504) hb); have NB510_545 := A_ ((by rw [hg]; exact Nat.ne_of_lt (blk_lt (g := gb510) (b_ BK510)) : gb510 ≠ gb545)); have NB545_510 := A_ ((by rw [hg]; exact Nat.ne_of_gt (blk_lt (g := gb510) (b_ BK510)) : gb545 ≠ gb510)); replace BK510 := A_ (blk_below (g := gb510) (b_ BK510) hb); have NB529_545 := A_ ((by rw [hg]; exact Nat.ne_of_lt (blk_lt (g := gb529) (b_ BK529)) : gb529 ≠ gb545)); have NB545_529 := A_ ((by rw [hg]; exact Nat.ne_of_gt (blk_lt (g := gb529) (b_ BK529)) : gb545 ≠ gb529)); replace BK529 := A_ (blk_below (g := gb529) (b_ BK529) hb); clear hb hbox hg
                 refine hK.out _ _ (tallysticklaw19_PlanMissing.held0_ BK504 BK529) (fun hHeld => ?_)
                 clear hK K
                 refine norm_ (a' := ?_) ?_ ?_
                 rotate_left
                 ·show Act.put _ (some 14) _ = _
                  simp only [Act.put, List.setIfInBounds_toArray, List.set_cons_zero, List.set_cons_succ, i64_w, i32_w]
                  rfl
                 exact norm_ (by first | (simp only [putAll, Act.put, List.setIfInBounds_toArray, List.set_cons_zero, List.set_cons_succ]; done) | (simp only [putAll, Act.put, List.setIfInBounds_toArray, List.set_cons_zero, List.set_cons_succ]; rfl)) (hJ1_3_11 (v531, v534, gb545) _ ⟨hHeld, (Kd.N_mono (n_ HO535) (fun _ hk => ⟨hk.1.1, ⟨hk.1.2.1, ⟨hk.1.2.2.1, ⟨hk.1.2.2.2.1, ⟨hk.1.2.2.2.2.1, ⟨hk.1.2.2.2.2.2.1, ⟨hk.1.2.2.2.2.2.2, hk.2⟩⟩⟩⟩⟩⟩⟩)), (Kd.V_mono (v_ HO_1) (fun _ hk => ⟨hk.1.1, ⟨hk.1.2.1, ⟨hk.1.2.2.1, ⟨hk.1.2.2.2.1, ⟨hk.1.2.2.2.2.1, ⟨hk.1.2.2.2.2.2.1, ⟨hk.1.2.2.2.2.2.2.1, ⟨hk.1.2.2.2.2.2.2.2, hk.2⟩⟩⟩⟩⟩⟩⟩⟩)), (r_ HO_530002), (r_ HO_530003), (r_ HO_530004), (Kd.V_mono (v_ HO_9) (fun _ hk => ⟨hk.1.1, ⟨hk.1.2.1, ⟨hk.1.2.2.1, ⟨hk.1.2.2.2.1, ⟨hk.1.2.2.2.2.1, ⟨hk.1.2.2.2.2.2.1, ⟨hk.1.2.2.2.2.2.2.1, ⟨hk.1.2.2.2.2.2.2.2, hk.2⟩⟩⟩⟩⟩⟩⟩⟩)), (b_ BK504), (b_ BK510), (b_ BK529), (b_ BK545), GW545.out, GE545.out, NB504_545.out, NB545_504.out, NB510_545.out, NB545_510.out, NB529_545.out, NB545_529.out, (hB_ w)⟩)
                rintro ⟨v531, v537, gb545⟩ w66 ⟨hS_, h0_, h1_, h2_, h3_, h4_, h5_, h6_, h7_, h8_, h9_, h10_, h11_, h12_, h13_, h14_, h15_, h16_⟩
                try dsimp only at h0_ h1_ h2_ h3_ h4_ h5_ h6_ h7_ h8_ h9_ h10_ h11_ h12_ h13_ h14_ h15_ h16_
                have HO532 := A_ h0_; have HO538 := A_ h1_; replace HO_1 := A_ h2_; replace HO_9 := A_ h3_; replace BK504 := A_ h4_; replace BK510 := A_ h5_; replace BK529 := A_ h6_; have BK545 := A_ h7_; have GW545 := A_ h8_; have GE545 := A_ h9_; have NB504_545 := A_ h10_; have NB545_504 := A_ h11_; have NB510_545 := A_ h12_; have NB545_510 := A_ h13_; have NB529_545 := A_ h14_; have NB545_529 := A_ h15_; replace HB := A_ h16_; clear HO_530002 HO_530003 HO_530004 h0_ h1_ h2_ h3_ h4_ h5_ h6_ h7_ h8_ h9_ h10_ h11_ h12_ h13_ h14_ h15_ h16_
                have hHeld : w66.cell? ⟨gb504, 0, none⟩ = some (.int .i64 a0_0) ∧ w66.cell? ⟨gb504, 1, none⟩ = some (.int .i64 a0_1) ∧ w66.cell? ⟨gb504, 2, none⟩ = some (.int .i64 a0_2) ∧ w66.cell? ⟨gb529, 0, none⟩ = some (.int .i64 t516) ∧ w66.cell? ⟨gb529, 1, none⟩ = some (.int .i64 t517) ∧ w66.cell? ⟨gb529, 2, none⟩ = some (.slice Ao51 t518.length co51) ∧ w66.cell? ⟨gb529, 3, none⟩ = some (.slice Ao52 t521.length co52) ∧ w66.cell? ⟨gb529, 4, none⟩ = some (.slice Ao53 t524.length co53) ∧ w66.cell? ⟨gb529, 5, none⟩ = some (.bool t527) := hS_
                refine norm_ (a' := ?_) ?_ ?_
                rotate_left
                ·simp only [putAll, Act.put, List.setIfInBounds_toArray, List.set_cons_zero, List.set_cons_succ]
                 rfl
                refine one_ (i := 3) (N := some 70) #[true, true, true, true, true, true, false, false, false, false, false, true, false, false] rfl rfl (one_of HT_.out (by kernel_rfl)) (by decide) (fun K hK => ?_)
                refine Kd.N_append_rows_step k41 (w0 := w) w.heap.size (by rfl) (.tmp 68) (.tmp 69) 35 41 (.agg #[(.int .i64 0), (.int .i64 0), (.slice none 0 0), (.slice none 0 0), (.slice none 0 0), (.bool false)]) 96 rfl Try.underlying35 info41 rfl (by decide) (by omega) v531 y530 l1 _ _ _ (fun k_ => (P1_ k_ ∨ w.heap.size ≤ k_) ∧ some k_ ≠ (v537 : Value).ownBlock ∧ k_ ≠ gb504 ∧ k_ ≠ gb510 ∧ k_ ≠ gb529 ∧ k_ ≠ gb545) (fun k_ => ((fun k_ => (P1_ k_ ∨ w.heap.size ≤ k_) ∧ some k_ ≠ (v537 : Value).ownBlock ∧ k_ ≠ gb504 ∧ k_ ≠ gb510 ∧ k_ ≠ gb529 ∧ k_ ≠ gb545)) k_ ∧ some k_ ≠ (v531 : Value).ownBlock) rfl rfl ?aO ?aR (fun _ hk => hk) ?aF ?aB ?aS ?aL ?_
                (case aR => exact (by skip; exact Kd.V_F (Kd.V_mono (ok' := (fun k_ => ((fun k_ => (P1_ k_ ∨ w.heap.size ≤ k_) ∧ some k_ ≠ (v537 : Value).ownBlock ∧ k_ ≠ gb504 ∧ k_ ≠ gb510 ∧ k_ ≠ gb529 ∧ k_ ≠ gb545)) k_ ∧ some k_ ≠ (v531 : Value).ownBlock)) (HO_1.out) (fun k_ hk => ⟨⟨hk.1, ⟨hk.2.2.1, ⟨hk.2.2.2.1, ⟨hk.2.2.2.2.1, ⟨hk.2.2.2.2.2.1, hk.2.2.2.2.2.2⟩⟩⟩⟩⟩, hk.2.1⟩))))
                (case aB => exact (hB_ w))
                (case aF => exact (fun k_ hk => ⟨(.inr (Nat.le_trans (below_size (hB_ w)) hk)), Kd.fresh' (Kd.N_lt (n_ HO538)) k_ hk, Kd.freshB (g := gb504) (b_ BK504) k_ hk, Kd.freshB (g := gb510) (b_ BK510) k_ hk, Kd.freshB (g := gb529) (b_ BK529) k_ hk, Kd.freshB (g := gb545) (b_ BK545) k_ hk⟩))
                (case aO => exact (n_ HO532))
                (case aS => exact (below_size (hB_ w)))
                (case aL => have := LMc56.out; omega)
                intro v534 w67 ho hb hg hat
                rw [← Ny533.out] at ho
                replace HO_1 := A_ (Kd.V_afterv (ok := (fun k_ => (P1_ k_ ∨ w.heap.size ≤ k_) ∧ some k_ ≠ (v537 : Value).ownBlock ∧ k_ ≠ gb504 ∧ k_ ≠ gb510 ∧ k_ ≠ gb529 ∧ k_ ≠ gb545)) (Kd.V_mono (v_ HO_1) (fun _ hk => ⟨⟨hk.1, ⟨hk.2.2.1, ⟨hk.2.2.2.1, ⟨hk.2.2.2.2.1, ⟨hk.2.2.2.2.2.1, hk.2.2.2.2.2.2⟩⟩⟩⟩⟩, hk.2.1⟩)) hg hat); replace HO_9 := A_ (Kd.V_afterv (ok := (fun k_ => (P1_ k_ ∨ w.heap.size ≤ k_) ∧ some k_ ≠ (v537 : Value).ownBlock ∧ k_ ≠ gb504 ∧ k_ ≠ gb510 ∧ k_ ≠ gb529 ∧ k_ ≠ gb545)) (Kd.V_mono (v_ HO_9) (fun _ hk => ⟨⟨hk.1, ⟨hk.2.2.1, ⟨hk.2.2.2.1, ⟨hk.2.2.2.2.1, ⟨hk.2.2.2.2.2.1, hk.2.2.2.2.2.2⟩⟩⟩⟩⟩, hk.2.1⟩)) hg hat); replace BK504 := A_ (blk_grown (g := gb504) (b_ BK504) hg (Kd.N_ne HO532.out BK504.out (by decide))); replace BK510 := A_ (blk_grown (g := gb510) (b_ BK510) hg (Kd.N_ne HO532.out BK510.out (by decide))); replace BK529 := A_ (blk_grown (g := gb529) (b_ BK529) hg (Kd.N_away HO532.out (fun _ hk => hk.2.2.2.2.1))); replace HO538 := A_ (Kd.N_afterv (ok := (fun k_ => (P1_ k_ ∨ w.heap.size ≤ k_) ∧ k_ ≠ gb504 ∧ k_ ≠ gb510 ∧ k_ ≠ gb529 ∧ k_ ≠ gb545)) (Kd.N_mono (n_ HO538) (fun _ hk => ⟨⟨hk.1, ⟨hk.2.2.1, ⟨hk.2.2.2.1, ⟨hk.2.2.2.2.1, hk.2.2.2.2.2⟩⟩⟩⟩, hk.2.1⟩)) hg hat); replace BK545 := A_ (blk_grown (g := gb545) (b_ BK545) hg (Kd.N_ne HO532.out BK545.out (by decide))); replace HB := A_ hb; have HO535 := A_ ho; clear HO532; clear ho hb hg hat
                refine hK.out _ _ (tallysticklaw19_PlanMissing.held0_ BK504 BK529) (fun hHeld => ?_)
                clear hK K
                refine norm_ (a' := ?_) ?_ ?_
                rotate_left
                ·show Act.put _ (some 70) _ = _
                 simp only [Act.put, List.setIfInBounds_toArray, List.set_cons_zero, List.set_cons_succ, i64_w, i32_w]
                 rfl
                exact norm_ (by first | (simp only [putAll, Act.put, List.setIfInBounds_toArray, List.set_cons_zero, List.set_cons_succ]; done) | (simp only [putAll, Act.put, List.setIfInBounds_toArray, List.set_cons_zero, List.set_cons_succ]; rfl)) (hJ1_3_5_11 (v531, v534, v537, gb545) _ ⟨hHeld, (n_ HO535), (Kd.N_mono (n_ HO538) (fun _ hk => ⟨hk.1.1, ⟨hk.2, ⟨hk.1.2.1, ⟨hk.1.2.2.1, ⟨hk.1.2.2.2.1, hk.1.2.2.2.2⟩⟩⟩⟩⟩)), (Kd.V_mono (v_ HO_1) (fun _ hk => ⟨hk.1.1, ⟨hk.2, ⟨hk.1.2.1, ⟨hk.1.2.2.1, ⟨hk.1.2.2.2.1, ⟨hk.1.2.2.2.2.1, hk.1.2.2.2.2.2⟩⟩⟩⟩⟩⟩)), (Kd.V_mono (v_ HO_9) (fun _ hk => ⟨hk.1.1, ⟨hk.2, ⟨hk.1.2.1, ⟨hk.1.2.2.1, ⟨hk.1.2.2.2.1, ⟨hk.1.2.2.2.2.1, hk.1.2.2.2.2.2⟩⟩⟩⟩⟩⟩)), (b_ BK504), (b_ BK510), (b_ BK529), (b_ BK545), GW545.out, GE545.out, NB504_545.out, NB545_504.out, NB510_545.out, NB545_510.out, NB529_545.out, NB545_529.out, (hB_ w)⟩)
               rintro ⟨v531, v534, gb545⟩ w65 ⟨hS_, h0_, h1_, h2_, h3_, h4_, h5_, h6_, h7_, h8_, h9_, h10_, h11_, h12_, h13_, h14_, h15_, h16_, h17_, h18_⟩
               try dsimp only at h0_ h1_ h2_ h3_ h4_ h5_ h6_ h7_ h8_ h9_ h10_ h11_ h12_ h13_ h14_ h15_ h16_ h17_ h18_
               have HO535 := A_ h0_; replace HO_1 := A_ h1_; replace HO_530002 := A_ h2_; replace HO_530003 := A_ h3_; replace HO_530004 := A_ h4_; replace HO_9 := A_ h5_; replace BK504 := A_ h6_; replace BK510 := A_ h7_; replace BK529 := A_ h8_; have BK545 := A_ h9_; have GW545 := A_ h10_; have GE545 := A_ h11_; have NB504_545 := A_ h12_; have NB545_504 := A_ h13_; have NB510_545 := A_ h14_; have NB545_510 := A_ h15_; have NB529_545 := A_ h16_; have NB545_529 := A_ h17_; replace HB := A_ h18_; clear h0_ h1_ h2_ h3_ h4_ h5_ h6_ h7_ h8_ h9_ h10_ h11_ h12_ h13_ h14_ h15_ h16_ h17_ h18_
               have hHeld : w65.cell? ⟨gb504, 0, none⟩ = some (.int .i64 a0_0) ∧ w65.cell? ⟨gb504, 1, none⟩ = some (.int .i64 a0_1) ∧ w65.cell? ⟨gb504, 2, none⟩ = some (.int .i64 a0_2) ∧ w65.cell? ⟨gb529, 0, none⟩ = some (.int .i64 t516) ∧ w65.cell? ⟨gb529, 1, none⟩ = some (.int .i64 t517) ∧ w65.cell? ⟨gb529, 2, none⟩ = some (.slice Ao51 t518.length co51) ∧ w65.cell? ⟨gb529, 3, none⟩ = some (.slice Ao52 t521.length co52) ∧ w65.cell? ⟨gb529, 4, none⟩ = some (.slice Ao53 t524.length co53) ∧ w65.cell? ⟨gb529, 5, none⟩ = some (.bool t527) := hS_
               refine norm_ (a' := ?_) ?_ ?_
               rotate_left
               ·simp only [putAll, Act.put, List.setIfInBounds_toArray, List.set_cons_zero, List.set_cons_succ]
                rfl
               refine one_ (i := 5) (N := some 72) #[true, true, true, true, true, true, false, false, false, false, false, true, false, false] rfl rfl (one_of HT_.out (by kernel_rfl)) (by decide) (fun K hK => ?_)
               refine Kd.N_lit_step k41 _ 41 ?hg (N' := 72) ?hd (xs := ([(⟨(⟨t516, t517⟩ : S29), t518, t521, t524, t527⟩ : S41)] : List (S41))) (inner := [.int .i64 t516, .int .i64 t517, .slice Ao51 t518.length co51, .slice Ao52 t521.length co52, .slice Ao53 t524.length co53, .bool t527]) (ok := (fun k_ => (P1_ k_ ∨ w.heap.size ≤ k_) ∧ some k_ ≠ (v534 : Value).ownBlock ∧ k_ ≠ gb504 ∧ k_ ≠ gb510 ∧ k_ ≠ gb529 ∧ k_ ≠ gb545)) (okp := (fun k_ => (P1_ k_ ∨ w.heap.size ≤ k_) ∧ some k_ ≠ (v534 : Value).ownBlock ∧ k_ ≠ gb504 ∧ k_ ≠ gb510 ∧ k_ ≠ gb529 ∧ k_ ≠ gb545)) ?hr ?hp (fun _ hk => hk) ((show ∀ k_, w65.heap.size ≤ k_ → (fun k_ => (P1_ k_ ∨ w.heap.size ≤ k_) ∧ some k_ ≠ (v534 : Value).ownBlock ∧ k_ ≠ gb504 ∧ k_ ≠ gb510 ∧ k_ ≠ gb529 ∧ k_ ≠ gb545) k_ from fun k_ hk => ⟨(.inr (Nat.le_trans (below_size (hB_ w)) hk)), Kd.fresh' (Kd.N_lt (n_ HO535)) k_ hk, Kd.freshB (g := gb504) (b_ BK504) k_ hk, Kd.freshB (g := gb510) (b_ BK510) k_ hk, Kd.freshB (g := gb529) (b_ BK529) k_ hk, Kd.freshB (g := gb545) (b_ BK545) k_ hk⟩) _ (Nat.le_refl _)) (Below.refl _ _) (Nat.le_refl _) (by simp) ?_; (case hd => rfl); (case hg => rfl); (case hr => first | (go_simp; done) | (go_simp; rfl)); (case hp => exact (Reps.c6 (show Kd.FK k41 _ _ (⟨(⟨t516, t517⟩ : S29), t518, t521, t524, t527⟩ : S41) [.int .i64 t516, .int .i64 t517, .slice Ao51 t518.length co51, .slice Ao52 t521.length co52, .slice Ao53 t524.length co53, .bool t527] from (k41_mkF _ _ (⟨(⟨t516, t517⟩ : S29), t518, t521, t524, t527⟩ : S41) (Kd.R_reads' (Kd.R_mono (ok' := (fun k_ => (P1_ k_ ∨ w.heap.size ≤ k_) ∧ some k_ ≠ (v534 : Value).ownBlock ∧ k_ ≠ gb504 ∧ k_ ≠ gb510 ∧ k_ ≠ gb529 ∧ k_ ≠ gb545)) (Kd.R_types (Kd.R_types (Kd.R_types (Kd.R_types (Kd.R_apart' (HO_530002.out) (Kd.N_typed HO535.out) (by decide)) BK504.out (by decide)) BK510.out (by decide)) BK529.out (by decide)) BK545.out (by decide)) (fun k_ hk => ⟨(.inr (hk.1.1.1.1.1.1)), ⟨hk.1.1.1.1.2, ⟨hk.1.1.1.2, ⟨hk.1.1.2, ⟨hk.1.2, hk.2⟩⟩⟩⟩⟩))).2.1 (Kd.R_F (Kd.R_mono (ok' := (fun k_ => (P1_ k_ ∨ w.heap.size ≤ k_) ∧ some k_ ≠ (v534 : Value).ownBlock ∧ k_ ≠ gb504 ∧ k_ ≠ gb510 ∧ k_ ≠ gb529 ∧ k_ ≠ gb545)) (Kd.R_types (Kd.R_types (Kd.R_types (Kd.R_types (Kd.R_apart' (HO_530002.out) (Kd.N_typed HO535.out) (by decide)) BK504.out (by decide)) BK510.out (by decide)) BK529.out (by decide)) BK545.out (by decide)) (fun k_ hk => ⟨(.inr (hk.1.1.1.1.1.1)), ⟨hk.1.1.1.1.2, ⟨hk.1.1.1.2, ⟨hk.1.1.2, ⟨hk.1.2, hk.2⟩⟩⟩⟩⟩))) (Kd.R_reads' (Kd.R_mono (ok' := (fun k_ => (P1_ k_ ∨ w.heap.size ≤ k_) ∧ some k_ ≠ (v534 : Value).ownBlock ∧ k_ ≠ gb504 ∧ k_ ≠ gb510 ∧ k_ ≠ gb529 ∧ k_ ≠ gb545)) (Kd.R_types (Kd.R_types (Kd.R_types (Kd.R_types (Kd.R_apart' (HO_530003.out) (Kd.N_typed HO535.out) (by decide)) BK504.out (by decide)) BK510.out (by decide)) BK529.out (by decide)) BK545.out (by decide)) (fun k_ hk => ⟨(.inr (hk.1.1.1.1.1.1)), ⟨hk.1.1.1.1.2, ⟨hk.1.1.1.2, ⟨hk.1.1.2, ⟨hk.1.2, hk.2⟩⟩⟩⟩⟩))).2.1 (Kd.R_F (Kd.R_mono (ok' := (fun k_ => (P1_ k_ ∨ w.heap.size ≤ k_) ∧ some k_ ≠ (v534 : Value).ownBlock ∧ k_ ≠ gb504 ∧ k_ ≠ gb510 ∧ k_ ≠ gb529 ∧ k_ ≠ gb545)) (Kd.R_types (Kd.R_types (Kd.R_types (Kd.R_types (Kd.R_apart' (HO_530003.out) (Kd.N_typed HO535.out) (by decide)) BK504.out (by decide)) BK510.out (by decide)) BK529.out (by decide)) BK545.out (by decide)) (fun k_ hk => ⟨(.inr (hk.1.1.1.1.1.1)), ⟨hk.1.1.1.1.2, ⟨hk.1.1.1.2, ⟨hk.1.1.2, ⟨hk.1.2, hk.2⟩⟩⟩⟩⟩))) (Kd.R_reads' (Kd.R_mono (ok' := (fun k_ => (P1_ k_ ∨ w.heap.size ≤ k_) ∧ some k_ ≠ (v534 : Value).ownBlock ∧ k_ ≠ gb504 ∧ k_ ≠ gb510 ∧ k_ ≠ gb529 ∧ k_ ≠ gb545)) (Kd.R_types (Kd.R_types (Kd.R_types (Kd.R_types (Kd.R_apart' (HO_530004.out) (Kd.N_typed HO535.out) (by decide)) BK504.out (by decide)) BK510.out (by decide)) BK529.out (by decide)) BK545.out (by decide)) (fun k_ hk => ⟨(.inr (hk.1.1.1.1.1.1)), ⟨hk.1.1.1.1.2, ⟨hk.1.1.1.2, ⟨hk.1.1.2, ⟨hk.1.2, hk.2⟩⟩⟩⟩⟩))).2.1 (Kd.R_F (Kd.R_mono (ok' := (fun k_ => (P1_ k_ ∨ w.heap.size ≤ k_) ∧ some k_ ≠ (v534 : Value).ownBlock ∧ k_ ≠ gb504 ∧ k_ ≠ gb510 ∧ k_ ≠ gb529 ∧ k_ ≠ gb545)) (Kd.R_types (Kd.R_types (Kd.R_types (Kd.R_types (Kd.R_apart' (HO_530004.out) (Kd.N_typed HO535.out) (by decide)) BK504.out (by decide)) BK510.out (by decide)) BK529.out (by decide)) BK545.out (by decide)) (fun k_ hk => ⟨(.inr (hk.1.1.1.1.1.1)), ⟨hk.1.1.1.1.2, ⟨hk.1.1.1.2, ⟨hk.1.1.2, ⟨hk.1.2, hk.2⟩⟩⟩⟩⟩))))) (Reps.none _ _)))
               intro v537 w66 ho67 hb hg_ hnew_
               clear hg_ hnew_
               (first | rw [← Ny536.out] at ho67 | (simp only [Int.reduceToNat] at ho67; rw [← Ny536.out] at ho67))
               replace HO_1 := A_ (Kd.V_elder' (v_ HO_1) (Kd.N_base ho67) hb); replace HO_9 := A_ (Kd.V_elder' (v_ HO_9) (Kd.N_base ho67) hb); replace HO535 := A_ (Kd.N_elder' (n_ HO535) (Kd.N_base ho67) hb); have HO538 := A_ (Kd.N_lower ho67 (below_size (hB_ w))); replace BK504 := A_ (blk_below (g := gb504) (b_ BK504) hb); replace BK510 := A_ (blk_below (g := gb510) (b_ BK510) hb); replace BK529 := A_ (blk_below (g := gb529) (b_ BK529) hb); replace BK545 := A_ (blk_below (g := gb545) (b_ BK545) hb); replace HB := A_ (below_step (hB_ w) hb); clear HO_530002 HO_530003 HO_530004; clear hb ho67
               refine hK.out _ _ (tallysticklaw19_PlanMissing.held0_ BK504 BK529) (fun hHeld => ?_)
               clear hK K
               refine norm_ (a' := ?_) ?_ ?_
               rotate_left
               ·show Act.put _ (some 72) _ = _
                simp only [Act.put, List.setIfInBounds_toArray, List.set_cons_zero, List.set_cons_succ, i64_w, i32_w]
                rfl
               exact norm_ (by first | (simp only [putAll, Act.put, List.setIfInBounds_toArray, List.set_cons_zero, List.set_cons_succ]; done) | (simp only [putAll, Act.put, List.setIfInBounds_toArray, List.set_cons_zero, List.set_cons_succ]; rfl)) (hJ1_3_5_11 (v531, v534, v537, gb545) _ ⟨hHeld, (Kd.N_mono (n_ HO535) (fun _ hk => ⟨hk.1.1, ⟨hk.2, ⟨hk.1.2.2.2.2.1, ⟨hk.1.2.2.2.2.2.1, ⟨hk.1.2.2.2.2.2.2.1, hk.1.2.2.2.2.2.2.2⟩⟩⟩⟩⟩)), (n_ HO538), (Kd.V_mono (v_ HO_1) (fun _ hk => ⟨hk.1.1, ⟨hk.1.2.1, ⟨hk.2, ⟨hk.1.2.2.2.2.2.1, ⟨hk.1.2.2.2.2.2.2.1, ⟨hk.1.2.2.2.2.2.2.2.1, hk.1.2.2.2.2.2.2.2.2⟩⟩⟩⟩⟩⟩)), (Kd.V_mono (v_ HO_9) (fun _ hk => ⟨hk.1.1, ⟨hk.1.2.1, ⟨hk.2, ⟨hk.1.2.2.2.2.2.1, ⟨hk.1.2.2.2.2.2.2.1, ⟨hk.1.2.2.2.2.2.2.2.1, hk.1.2.2.2.2.2.2.2.2⟩⟩⟩⟩⟩⟩)), (b_ BK504), (b_ BK510), (b_ BK529), (b_ BK545), GW545.out, GE545.out, NB504_545.out, NB545_504.out, NB510_545.out, NB545_510.out, NB529_545.out, NB545_529.out, (hB_ w)⟩)
              rintro ⟨v531, v534, v537⟩ w66 ⟨hS_, h0_, h1_, h2_, h3_, h4_, h5_, h6_, h7_⟩
              try dsimp only at h0_ h1_ h2_ h3_ h4_ h5_ h6_ h7_
              have HO535 := A_ h0_; have HO538 := A_ h1_; replace HO_1 := A_ h2_; replace HO_9 := A_ h3_; replace BK504 := A_ h4_; replace BK510 := A_ h5_; replace BK529 := A_ h6_; replace HB := A_ h7_; clear HO_530002 HO_530003 HO_530004 h0_ h1_ h2_ h3_ h4_ h5_ h6_ h7_
              have hHeld : w66.cell? ⟨gb504, 0, none⟩ = some (.int .i64 a0_0) ∧ w66.cell? ⟨gb504, 1, none⟩ = some (.int .i64 a0_1) ∧ w66.cell? ⟨gb504, 2, none⟩ = some (.int .i64 a0_2) ∧ w66.cell? ⟨gb529, 0, none⟩ = some (.int .i64 t516) ∧ w66.cell? ⟨gb529, 1, none⟩ = some (.int .i64 t517) ∧ w66.cell? ⟨gb529, 2, none⟩ = some (.slice Ao51 t518.length co51) ∧ w66.cell? ⟨gb529, 3, none⟩ = some (.slice Ao52 t521.length co52) ∧ w66.cell? ⟨gb529, 4, none⟩ = some (.slice Ao53 t524.length co53) ∧ w66.cell? ⟨gb529, 5, none⟩ = some (.bool t527) := hS_
              obtain ⟨Ao68, co68, eo68⟩ := Kd.N_slice HO538.out
              (first | subst eo68 | (injection eo68 with f1_ f2_ f3_; have f4_ := f1_.symm; have f5_ := f3_.symm; clear f1_ f2_ f3_; subst f4_; subst f5_))
              refine norm_ (a' := ?_) ?_ ?_
              rotate_left
              ·simp only [putAll, Act.put, List.setIfInBounds_toArray, List.set_cons_zero, List.set_cons_succ]
               rfl
              refine two_ (i := 6) (j := 11) (Ni := some 73) (Nj := some 14) #[true, true, true, true, true, true, true, false, false, false, false, false, false, false] #[true, true, true, true, true, true, false, false, false, false, false, true, false, false] rfl rfl rfl rfl (two_of HT_.out (by kernel_rfl)) (by decide) (by decide) (fun K hK => ?_) (fun K hK => ?_)
              ·skip
               refine Kd.N_append_rows_step k41 (w0 := w) w.heap.size (by rfl) (.tmp 70) (.tmp 72) 35 41 (.agg #[(.int .i64 0), (.int .i64 0), (.slice none 0 0), (.slice none 0 0), (.slice none 0 0), (.bool false)]) 96 rfl Try.underlying35 info41 rfl (by decide) (by omega) v534 y533 y536 _ _ _ (fun k_ => (P1_ k_ ∨ w.heap.size ≤ k_) ∧ k_ ≠ gb504 ∧ k_ ≠ gb510 ∧ k_ ≠ gb529) (fun k_ => ((fun k_ => (P1_ k_ ∨ w.heap.size ≤ k_) ∧ k_ ≠ gb504 ∧ k_ ≠ gb510 ∧ k_ ≠ gb529)) k_ ∧ some k_ ≠ (v534 : Value).ownBlock) rfl rfl ?aO ?aR (fun _ hk => hk) ?aF ?aB ?aS ?aL ?_
               (case aR => exact (by skip; exact Kd.N_F (Kd.N_mono (ok' := (fun k_ => ((fun k_ => (P1_ k_ ∨ w.heap.size ≤ k_) ∧ k_ ≠ gb504 ∧ k_ ≠ gb510 ∧ k_ ≠ gb529)) k_ ∧ some k_ ≠ (v534 : Value).ownBlock)) (HO538.out) (fun k_ hk => ⟨⟨hk.1, ⟨hk.2.2.1, ⟨hk.2.2.2.1, hk.2.2.2.2⟩⟩⟩, hk.2.1⟩))))
               (case aB => exact (hB_ w))
               (case aF => exact (fun k_ hk => ⟨(.inr (Nat.le_trans (below_size (hB_ w)) hk)), Kd.freshB (g := gb504) (b_ BK504) k_ hk, Kd.freshB (g := gb510) (b_ BK510) k_ hk, Kd.freshB (g := gb529) (b_ BK529) k_ hk⟩))
               (case aO => exact (Kd.N_mono (n_ HO535) (fun _ hk => ⟨hk.1, ⟨hk.2.2.1, ⟨hk.2.2.2.1, hk.2.2.2.2⟩⟩⟩)))
               (case aS => exact (below_size (hB_ w)))
               (case aL => have := LMc57.out; omega)
               intro v540 w67 ho hb hg hat
               rw [← Ny539.out] at ho
               replace HO_1 := A_ (Kd.V_afterv (ok := (fun k_ => (P1_ k_ ∨ w.heap.size ≤ k_) ∧ some k_ ≠ (.slice Ao68 y536.length co68 : Value).ownBlock ∧ k_ ≠ gb504 ∧ k_ ≠ gb510 ∧ k_ ≠ gb529)) (Kd.V_mono (v_ HO_1) (fun _ hk => ⟨⟨hk.1, ⟨hk.2.2.1, ⟨hk.2.2.2.1, ⟨hk.2.2.2.2.1, hk.2.2.2.2.2⟩⟩⟩⟩, hk.2.1⟩)) hg hat); replace HO_9 := A_ (Kd.V_afterv (ok := (fun k_ => (P1_ k_ ∨ w.heap.size ≤ k_) ∧ some k_ ≠ (.slice Ao68 y536.length co68 : Value).ownBlock ∧ k_ ≠ gb504 ∧ k_ ≠ gb510 ∧ k_ ≠ gb529)) (Kd.V_mono (v_ HO_9) (fun _ hk => ⟨⟨hk.1, ⟨hk.2.2.1, ⟨hk.2.2.2.1, ⟨hk.2.2.2.2.1, hk.2.2.2.2.2⟩⟩⟩⟩, hk.2.1⟩)) hg hat); replace BK504 := A_ (blk_grown (g := gb504) (b_ BK504) hg (Kd.N_ne HO535.out BK504.out (by decide))); replace BK510 := A_ (blk_grown (g := gb510) (b_ BK510) hg (Kd.N_ne HO535.out BK510.out (by decide))); replace BK529 := A_ (blk_grown (g := gb529) (b_ BK529) hg (Kd.N_away HO535.out (fun _ hk => hk.2.2.2.2))); replace HO538 := A_ (Kd.N_afterv (ok := (fun k_ => (P1_ k_ ∨ w.heap.size ≤ k_) ∧ k_ ≠ gb504 ∧ k_ ≠ gb510 ∧ k_ ≠ gb529)) (Kd.N_mono (n_ HO538) (fun _ hk => ⟨⟨hk.1, ⟨hk.2.2.1, ⟨hk.2.2.2.1, hk.2.2.2.2⟩⟩⟩, hk.2.1⟩)) hg hat); replace HB := A_ hb; have HO541 := A_ ho; clear HO535; clear ho hb hg hat
               refine hK.out _ _ (tallysticklaw19_PlanMissing.held0_ BK504 BK529) (fun hHeld => ?_)
               clear hK K
               refine norm_ (a' := ?_) ?_ ?_
               rotate_left
               ·show Act.put _ (some 73) _ = _
                simp only [Act.put, List.setIfInBounds_toArray, List.set_cons_zero, List.set_cons_succ, i64_w, i32_w]
                rfl
               exact norm_ (by first | (simp only [putAll, Act.put, List.setIfInBounds_toArray, List.set_cons_zero, List.set_cons_succ]; done) | (simp only [putAll, Act.put, List.setIfInBounds_toArray, List.set_cons_zero, List.set_cons_succ]; rfl)) (hJ1_3_5_6 (v531, v534, .slice Ao68 y536.length co68, v540) _ ⟨hHeld, (Kd.N_mono (n_ HO538) (fun _ hk => ⟨hk.1.1, ⟨hk.2, ⟨hk.1.2.1, ⟨hk.1.2.2.1, hk.1.2.2.2⟩⟩⟩⟩)), (n_ HO541), (Kd.V_mono (v_ HO_1) (fun _ hk => ⟨hk.1.1, ⟨hk.1.2.1, ⟨hk.2, ⟨hk.1.2.2.1, ⟨hk.1.2.2.2.1, hk.1.2.2.2.2⟩⟩⟩⟩⟩)), (Kd.V_mono (v_ HO_9) (fun _ hk => ⟨hk.1.1, ⟨hk.1.2.1, ⟨hk.2, ⟨hk.1.2.2.1, ⟨hk.1.2.2.2.1, hk.1.2.2.2.2⟩⟩⟩⟩⟩)), (b_ BK504), (b_ BK510), (b_ BK529), (hB_ w)⟩)
              refine box_step ?hg (N := 14) ?hd (cs := #[.int .i64 0, .int .i64 0]) (t := 29) ?hr ?_; (case hd => rfl); (case hg => rfl); (case hr => first | (go_simp; done) | (go_simp; rfl))
              intro gb545 hg w67 hbox hb
              replace HO_1 := A_ (Kd.V_below (Kd.V_elderB (v_ HO_1) gb545 (Nat.le_of_eq hg.symm)) hb); replace HO_9 := A_ (Kd.V_below (Kd.V_elderB (v_ HO_9) gb545 (Nat.le_of_eq hg.symm)) hb); replace HO535 := A_ (Kd.N_below (Kd.N_elderB (n_ HO535) gb545 (Nat.le_of_eq hg.symm)) hb); replace HO538 := A_ (Kd.N_below (Kd.N_elderB (n_ HO538) gb545 (Nat.le_of_eq hg.symm)) hb); have BK545 := A_ hbox; have GW545 := A_ ((by rw [hg]; exact (below_size (hB_ w)) : w.heap.size ≤ gb545)); have GE545 := A_ ((by rw [hg]; exact (below_size (hB_ w)) : w.heap.size ≤ gb545)); replace HB := A_ (below_step (hB_ w) hb); have NB504_545 := A_ ((by rw [hg]; exact Nat.ne_of_lt (blk_lt (g := gb504) (b_ BK504)) : gb504 ≠ gb545)); have NB545_504 := A_ ((by rw [hg]; exact Nat.ne_of_gt (blk_lt (g := gb504) (b_ BK504)) : gb545 ≠ gb504)); replace BK504 := A_ (blk_below (g := gb504) (b_ BK504) hb); have NB510_545 := A_ ((by rw [hg]; exact Nat.ne_of_lt (blk_lt (g := gb510) (b_ BK510)) : gb510 ≠ gb545)); have NB545_510 := A_ ((by rw [hg]; exact Nat.ne_of_gt (blk_lt (g := gb510) (b_ BK510)) : gb545 ≠ gb510)); replace BK510 := A_ (blk_below (g := gb510) (b_ BK510) hb); have NB529_545 := A_ ((by rw [hg]; exact Nat.ne_of_lt (blk_lt (g := gb529) (b_ BK529)) : gb529 ≠ gb545)); have NB545_529 := A_ ((by rw [hg]; exact Nat.ne_of_gt (blk_lt (g := gb529) (b_ BK529)) : gb545 ≠ gb529)); replace BK529 := A_ (blk_below (g := gb529) (b_ BK529) hb); clear hb hbox hg
              refine hK.out _ _ (tallysticklaw19_PlanMissing.held0_ BK504 BK529) (fun hHeld => ?_)
              clear hK K
              refine norm_ (a' := ?_) ?_ ?_
              rotate_left
              ·show Act.put _ (some 14) _ = _
               simp only [Act.put, List.setIfInBounds_toArray, List.set_cons_zero, List.set_cons_succ, i64_w, i32_w]
               rfl
              exact norm_ (by first | (simp only [putAll, Act.put, List.setIfInBounds_toArray, List.set_cons_zero, List.set_cons_succ]; done) | (simp only [putAll, Act.put, List.setIfInBounds_toArray, List.set_cons_zero, List.set_cons_succ]; rfl)) (hJ1_3_5_11 (v531, v534, .slice Ao68 y536.length co68, gb545) _ ⟨hHeld, (Kd.N_mono (n_ HO535) (fun _ hk => ⟨hk.1.1, ⟨hk.1.2.1, ⟨hk.1.2.2.1, ⟨hk.1.2.2.2.1, ⟨hk.1.2.2.2.2, hk.2⟩⟩⟩⟩⟩)), (Kd.N_mono (n_ HO538) (fun _ hk => ⟨hk.1.1, ⟨hk.1.2.1, ⟨hk.1.2.2.1, ⟨hk.1.2.2.2.1, ⟨hk.1.2.2.2.2, hk.2⟩⟩⟩⟩⟩)), (Kd.V_mono (v_ HO_1) (fun _ hk => ⟨hk.1.1, ⟨hk.1.2.1, ⟨hk.1.2.2.1, ⟨hk.1.2.2.2.1, ⟨hk.1.2.2.2.2.1, ⟨hk.1.2.2.2.2.2, hk.2⟩⟩⟩⟩⟩⟩)), (Kd.V_mono (v_ HO_9) (fun _ hk => ⟨hk.1.1, ⟨hk.1.2.1, ⟨hk.1.2.2.1, ⟨hk.1.2.2.2.1, ⟨hk.1.2.2.2.2.1, ⟨hk.1.2.2.2.2.2, hk.2⟩⟩⟩⟩⟩⟩)), (b_ BK504), (b_ BK510), (b_ BK529), (b_ BK545), GW545.out, GE545.out, NB504_545.out, NB545_504.out, NB510_545.out, NB545_510.out, NB529_545.out, NB545_529.out, (hB_ w)⟩)
             rintro ⟨v531, v534, v537, gb545⟩ w67 ⟨hS_, h0_, h1_, h2_, h3_, h4_, h5_, h6_, h7_, h8_, h9_, h10_, h11_, h12_, h13_, h14_, h15_, h16_⟩
             try dsimp only at h0_ h1_ h2_ h3_ h4_ h5_ h6_ h7_ h8_ h9_ h10_ h11_ h12_ h13_ h14_ h15_ h16_
             have HO535 := A_ h0_; have HO538 := A_ h1_; replace HO_1 := A_ h2_; replace HO_9 := A_ h3_; replace BK504 := A_ h4_; replace BK510 := A_ h5_; replace BK529 := A_ h6_; have BK545 := A_ h7_; have GW545 := A_ h8_; have GE545 := A_ h9_; have NB504_545 := A_ h10_; have NB545_504 := A_ h11_; have NB510_545 := A_ h12_; have NB545_510 := A_ h13_; have NB529_545 := A_ h14_; have NB545_529 := A_ h15_; replace HB := A_ h16_; clear HO_530002 HO_530003 HO_530004 h0_ h1_ h2_ h3_ h4_ h5_ h6_ h7_ h8_ h9_ h10_ h11_ h12_ h13_ h14_ h15_ h16_
             have hHeld : w67.cell? ⟨gb504, 0, none⟩ = some (.int .i64 a0_0) ∧ w67.cell? ⟨gb504, 1, none⟩ = some (.int .i64 a0_1) ∧ w67.cell? ⟨gb504, 2, none⟩ = some (.int .i64 a0_2) ∧ w67.cell? ⟨gb529, 0, none⟩ = some (.int .i64 t516) ∧ w67.cell? ⟨gb529, 1, none⟩ = some (.int .i64 t517) ∧ w67.cell? ⟨gb529, 2, none⟩ = some (.slice Ao51 t518.length co51) ∧ w67.cell? ⟨gb529, 3, none⟩ = some (.slice Ao52 t521.length co52) ∧ w67.cell? ⟨gb529, 4, none⟩ = some (.slice Ao53 t524.length co53) ∧ w67.cell? ⟨gb529, 5, none⟩ = some (.bool t527) := hS_
             obtain ⟨Ao69, co69, eo69⟩ := Kd.N_slice HO538.out
             (first | subst eo69 | (injection eo69 with f1_ f2_ f3_; have f4_ := f1_.symm; have f5_ := f3_.symm; clear f1_ f2_ f3_; subst f4_; subst f5_))
             refine norm_ (a' := ?_) ?_ ?_
             rotate_left
             ·simp only [putAll, Act.put, List.setIfInBounds_toArray, List.set_cons_zero, List.set_cons_succ]
              rfl
             refine one_ (i := 6) (N := some 73) #[true, true, true, true, true, true, true, false, false, false, false, true, false, false] rfl rfl (one_of HT_.out (by kernel_rfl)) (by decide) (fun K hK => ?_)
             refine Kd.N_append_rows_step k41 (w0 := w) w.heap.size (by rfl) (.tmp 70) (.tmp 72) 35 41 (.agg #[(.int .i64 0), (.int .i64 0), (.slice none 0 0), (.slice none 0 0), (.slice none 0 0), (.bool false)]) 96 rfl Try.underlying35 info41 rfl (by decide) (by omega) v534 y533 y536 _ _ _ (fun k_ => (P1_ k_ ∨ w.heap.size ≤ k_) ∧ k_ ≠ gb504 ∧ k_ ≠ gb510 ∧ k_ ≠ gb529 ∧ k_ ≠ gb545) (fun k_ => ((fun k_ => (P1_ k_ ∨ w.heap.size ≤ k_) ∧ k_ ≠ gb504 ∧ k_ ≠ gb510 ∧ k_ ≠ gb529 ∧ k_ ≠ gb545)) k_ ∧ some k_ ≠ (v534 : Value).ownBlock) rfl rfl ?aO ?aR (fun _ hk => hk) ?aF ?aB ?aS ?aL ?_
             (case aR => exact (by skip; exact Kd.N_F (Kd.N_mono (ok' := (fun k_ => ((fun k_ => (P1_ k_ ∨ w.heap.size ≤ k_) ∧ k_ ≠ gb504 ∧ k_ ≠ gb510 ∧ k_ ≠ gb529 ∧ k_ ≠ gb545)) k_ ∧ some k_ ≠ (v534 : Value).ownBlock)) (HO538.out) (fun k_ hk => ⟨⟨hk.1, ⟨hk.2.2.1, ⟨hk.2.2.2.1, ⟨hk.2.2.2.2.1, hk.2.2.2.2.2⟩⟩⟩⟩, hk.2.1⟩))))
             (case aB => exact (hB_ w))
             (case aF => exact (fun k_ hk => ⟨(.inr (Nat.le_trans (below_size (hB_ w)) hk)), Kd.freshB (g := gb504) (b_ BK504) k_ hk, Kd.freshB (g := gb510) (b_ BK510) k_ hk, Kd.freshB (g := gb529) (b_ BK529) k_ hk, Kd.freshB (g := gb545) (b_ BK545) k_ hk⟩))
             (case aO => exact (Kd.N_mono (n_ HO535) (fun _ hk => ⟨hk.1, ⟨hk.2.2.1, ⟨hk.2.2.2.1, ⟨hk.2.2.2.2.1, hk.2.2.2.2.2⟩⟩⟩⟩)))
             (case aS => exact (below_size (hB_ w)))
             (case aL => have := LMc57.out; omega)
             intro v540 w68 ho hb hg hat
             rw [← Ny539.out] at ho
             replace HO_1 := A_ (Kd.V_afterv (ok := (fun k_ => (P1_ k_ ∨ w.heap.size ≤ k_) ∧ some k_ ≠ (.slice Ao69 y536.length co69 : Value).ownBlock ∧ k_ ≠ gb504 ∧ k_ ≠ gb510 ∧ k_ ≠ gb529 ∧ k_ ≠ gb545)) (Kd.V_mono (v_ HO_1) (fun _ hk => ⟨⟨hk.1, ⟨hk.2.2.1, ⟨hk.2.2.2.1, ⟨hk.2.2.2.2.1, ⟨hk.2.2.2.2.2.1, hk.2.2.2.2.2.2⟩⟩⟩⟩⟩, hk.2.1⟩)) hg hat); replace HO_9 := A_ (Kd.V_afterv (ok := (fun k_ => (P1_ k_ ∨ w.heap.size ≤ k_) ∧ some k_ ≠ (.slice Ao69 y536.length co69 : Value).ownBlock ∧ k_ ≠ gb504 ∧ k_ ≠ gb510 ∧ k_ ≠ gb529 ∧ k_ ≠ gb545)) (Kd.V_mono (v_ HO_9) (fun _ hk => ⟨⟨hk.1, ⟨hk.2.2.1, ⟨hk.2.2.2.1, ⟨hk.2.2.2.2.1, ⟨hk.2.2.2.2.2.1, hk.2.2.2.2.2.2⟩⟩⟩⟩⟩, hk.2.1⟩)) hg hat); replace BK504 := A_ (blk_grown (g := gb504) (b_ BK504) hg (Kd.N_ne HO535.out BK504.out (by decide))); replace BK510 := A_ (blk_grown (g := gb510) (b_ BK510) hg (Kd.N_ne HO535.out BK510.out (by decide))); replace BK529 := A_ (blk_grown (g := gb529) (b_ BK529) hg (Kd.N_away HO535.out (fun _ hk => hk.2.2.2.2.1))); replace HO538 := A_ (Kd.N_afterv (ok := (fun k_ => (P1_ k_ ∨ w.heap.size ≤ k_) ∧ k_ ≠ gb504 ∧ k_ ≠ gb510 ∧ k_ ≠ gb529 ∧ k_ ≠ gb545)) (Kd.N_mono (n_ HO538) (fun _ hk => ⟨⟨hk.1, ⟨hk.2.2.1, ⟨hk.2.2.2.1, ⟨hk.2.2.2.2.1, hk.2.2.2.2.2⟩⟩⟩⟩, hk.2.1⟩)) hg hat); replace BK545 := A_ (blk_grown (g := gb545) (b_ BK545) hg (Kd.N_ne HO535.out BK545.out (by decide))); replace HB := A_ hb; have HO541 := A_ ho; clear HO535; clear ho hb hg hat
             refine hK.out _ _ (tallysticklaw19_PlanMissing.held0_ BK504 BK529) (fun hHeld => ?_)
             clear hK K
             refine norm_ (a' := ?_) ?_ ?_
             rotate_left
             ·show Act.put _ (some 73) _ = _
              simp only [Act.put, List.setIfInBounds_toArray, List.set_cons_zero, List.set_cons_succ, i64_w, i32_w]
              rfl
             exact norm_ (by first | (simp only [putAll, Act.put, List.setIfInBounds_toArray, List.set_cons_zero, List.set_cons_succ]; done) | (simp only [putAll, Act.put, List.setIfInBounds_toArray, List.set_cons_zero, List.set_cons_succ]; rfl)) (hJ1_3_5_6_11 (v531, v534, .slice Ao69 y536.length co69, v540, gb545) _ ⟨hHeld, (Kd.N_mono (n_ HO538) (fun _ hk => ⟨hk.1.1, ⟨hk.2, ⟨hk.1.2.1, ⟨hk.1.2.2.1, ⟨hk.1.2.2.2.1, hk.1.2.2.2.2⟩⟩⟩⟩⟩)), (n_ HO541), (Kd.V_mono (v_ HO_1) (fun _ hk => ⟨hk.1.1, ⟨hk.1.2.1, ⟨hk.2, ⟨hk.1.2.2.1, ⟨hk.1.2.2.2.1, ⟨hk.1.2.2.2.2.1, hk.1.2.2.2.2.2⟩⟩⟩⟩⟩⟩)), (Kd.V_mono (v_ HO_9) (fun _ hk => ⟨hk.1.1, ⟨hk.1.2.1, ⟨hk.2, ⟨hk.1.2.2.1, ⟨hk.1.2.2.2.1, ⟨hk.1.2.2.2.2.1, hk.1.2.2.2.2.2⟩⟩⟩⟩⟩⟩)), (b_ BK504), (b_ BK510), (b_ BK529), (b_ BK545), GW545.out, GE545.out, NB504_545.out, NB545_504.out, NB510_545.out, NB545_510.out, NB529_545.out, NB545_529.out, (hB_ w)⟩)
            rintro ⟨v531, v534, v537, v540⟩ w68 ⟨hS_, h0_, h1_, h2_, h3_, h4_, h5_, h6_, h7_⟩
            try dsimp only at h0_ h1_ h2_ h3_ h4_ h5_ h6_ h7_
            have HO538 := A_ h0_; have HO541 := A_ h1_; replace HO_1 := A_ h2_; replace HO_9 := A_ h3_; replace BK504 := A_ h4_; replace BK510 := A_ h5_; replace BK529 := A_ h6_; replace HB := A_ h7_; clear HO_530002 HO_530003 HO_530004 h0_ h1_ h2_ h3_ h4_ h5_ h6_ h7_
            have hHeld : w68.cell? ⟨gb504, 0, none⟩ = some (.int .i64 a0_0) ∧ w68.cell? ⟨gb504, 1, none⟩ = some (.int .i64 a0_1) ∧ w68.cell? ⟨gb504, 2, none⟩ = some (.int .i64 a0_2) ∧ w68.cell? ⟨gb529, 0, none⟩ = some (.int .i64 t516) ∧ w68.cell? ⟨gb529, 1, none⟩ = some (.int .i64 t517) ∧ w68.cell? ⟨gb529, 2, none⟩ = some (.slice Ao51 t518.length co51) ∧ w68.cell? ⟨gb529, 3, none⟩ = some (.slice Ao52 t521.length co52) ∧ w68.cell? ⟨gb529, 4, none⟩ = some (.slice Ao53 t524.length co53) ∧ w68.cell? ⟨gb529, 5, none⟩ = some (.bool t527) := hS_
            obtain ⟨Ao69, co69, eo69⟩ := Kd.N_slice HO541.out
            (first | subst eo69 | (injection eo69 with f1_ f2_ f3_; have f4_ := f1_.symm; have f5_ := f3_.symm; clear f1_ f2_ f3_; subst f4_; subst f5_))
            refine norm_ (a' := ?_) ?_ ?_
            rotate_left
            ·simp only [putAll, Act.put, List.setIfInBounds_toArray, List.set_cons_zero, List.set_cons_succ]
             rfl
            refine two_ (i := 7) (j := 11) (Ni := some 74) (Nj := some 14) #[true, true, true, true, true, true, true, true, false, false, false, false, false, false] #[true, true, true, true, true, true, true, false, false, false, false, true, false, false] rfl rfl rfl rfl (two_of HT_.out (by kernel_rfl)) (by decide) (by decide) (fun K hK => ?_) (fun K hK => ?_)
            ·skip
             refine goes_ Try.func17 (by kernel_rfl) rfl #[.agg #[.int .i64 a0_0, .int .i64 a0_1, .int .i64 a0_2], .slice Ao69 y539.length co69] (by rfl) rfl rfl (by (try simp only [List.map_toArray, List.map_cons, List.map_nil]); first | done | rfl | (simp only [List.length_drop, List.length_take]; rfl)) ?_
             with_reducible refine (plan_Missing.calls a0_0 a0_1 a0_2 _ _ y539 t542 t543 t544 _ ?side1 ?side2 A58.out).mono ?_
             (case side1 => repeat (first | exact (Kd.N_reads' HO541.out).2.2 | (with_reducible refine Kd.C_alloc ?_ _) | (with_reducible refine Kd.C_drewN ?_ _) | (with_reducible refine Kd.C_drew ?_)))
             (case side2 => exact (Kd.N_reads' HO541.out).2.1)
             rintro e w70 ⟨rfl, hb⟩
             refine ⟨_, rfl, ?_⟩
             replace HO_1 := A_ (Kd.V_below (v_ HO_1) hb); replace HO_9 := A_ (Kd.V_below (v_ HO_9) hb); replace HO538 := A_ (Kd.N_below (n_ HO538) hb); replace HO541 := A_ (Kd.N_below (n_ HO541) hb); replace BK504 := A_ (blk_below (g := gb504) (b_ BK504) hb); replace BK510 := A_ (blk_below (g := gb510) (b_ BK510) hb); replace BK529 := A_ (blk_below (g := gb529) (b_ BK529) hb); replace HB := A_ (below_step (hB_ w) hb)
             (try clear hb)
             (try clear hb2)
             (try clear hk)
             (try clear hi)
             refine hK.out _ _ (tallysticklaw19_PlanMissing.held0_ BK504 BK529) (fun hHeld => ?_)
             clear hK K
             refine norm_ (a' := ?_) ?_ ?_
             rotate_left
             ·show Act.put _ (some 74) _ = _
              simp only [Act.put, List.setIfInBounds_toArray, List.set_cons_zero, List.set_cons_succ, i64_w, i32_w]
              rfl
             refine pure_ (i := 8) (N := some 66) (v := ?_) (a' := ?_) #[true, true, true, true, true, true, true, true, true, false, false, false, false, false] rfl rfl (any_of HT_.out (by kernel_rfl)) (fun _ _ _ h => h) (Or.inl ⟨by rfl, ?_⟩) ?_ ?_
             rotate_left
             ·intro w'
              go_simp
              with_reducible rfl
             rotate_left
             ·simp only [Act.put, List.setIfInBounds_toArray, List.set_cons_zero, List.set_cons_succ, i64_w, i32_w]
              rfl
             refine pure_ (i := 9) (N := some 75) (v := ?_) (a' := ?_) #[true, true, true, true, true, true, true, true, true, true, false, false, false, false] rfl rfl (any_of HT_.out (by kernel_rfl)) (fun _ _ _ h => h) (Or.inl ⟨by rfl, ?_⟩) ?_ ?_
             rotate_left
             ·intro w'
              go_simp
              with_reducible rfl
             rotate_left
             ·simp only [Act.put, List.setIfInBounds_toArray, List.set_cons_zero, List.set_cons_succ, i64_w, i32_w]
              rfl
             refine pure_ (i := 10) (N := some 76) (v := ?_) (a' := ?_) #[true, true, true, true, true, true, true, true, true, true, true, false, false, false] rfl rfl (any_of HT_.out (by kernel_rfl)) (fun _ _ _ h => h) (Or.inl ⟨by rfl, ?_⟩) ?_ ?_
             rotate_left
             ·intro w'
              go_simp
              with_reducible rfl
             rotate_left
             ·simp only [Act.put, List.setIfInBounds_toArray, List.set_cons_zero, List.set_cons_succ, i64_w, i32_w]
              rfl
             exact norm_ (by first | (simp only [putAll, Act.put, List.setIfInBounds_toArray, List.set_cons_zero, List.set_cons_succ]; done) | (simp only [putAll, Act.put, List.setIfInBounds_toArray, List.set_cons_zero, List.set_cons_succ]; rfl)) (hJ1_3_5_6_7 (v531, v534, v537, .slice Ao69 y539.length co69) _ ⟨hHeld, (n_ HO538), (n_ HO541), (v_ HO_1), (v_ HO_9), (b_ BK504), (b_ BK510), (b_ BK529), (hB_ w)⟩)
            refine box_step ?hg (N := 14) ?hd (cs := #[.int .i64 0, .int .i64 0]) (t := 29) ?hr ?_; (case hd => rfl); (case hg => rfl); (case hr => first | (go_simp; done) | (go_simp; rfl))
            intro gb545 hg w69 hbox hb
            replace HO_1 := A_ (Kd.V_below (Kd.V_elderB (v_ HO_1) gb545 (Nat.le_of_eq hg.symm)) hb); replace HO_9 := A_ (Kd.V_below (Kd.V_elderB (v_ HO_9) gb545 (Nat.le_of_eq hg.symm)) hb); replace HO538 := A_ (Kd.N_below (Kd.N_elderB (n_ HO538) gb545 (Nat.le_of_eq hg.symm)) hb); replace HO541 := A_ (Kd.N_below (Kd.N_elderB (n_ HO541) gb545 (Nat.le_of_eq hg.symm)) hb); have BK545 := A_ hbox; have GW545 := A_ ((by rw [hg]; exact (below_size (hB_ w)) : w.heap.size ≤ gb545)); have GE545 := A_ ((by rw [hg]; exact (below_size (hB_ w)) : w.heap.size ≤ gb545)); replace HB := A_ (below_step (hB_ w) hb); have NB504_545 := A_ ((by rw [hg]; exact Nat.ne_of_lt (blk_lt (g := gb504) (b_ BK504)) : gb504 ≠ gb545)); have NB545_504 := A_ ((by rw [hg]; exact Nat.ne_of_gt (blk_lt (g := gb504) (b_ BK504)) : gb545 ≠ gb504)); replace BK504 := A_ (blk_below (g := gb504) (b_ BK504) hb); have NB510_545 := A_ ((by rw [hg]; exact Nat.ne_of_lt (blk_lt (g := gb510) (b_ BK510)) : gb510 ≠ gb545)); have NB545_510 := A_ ((by rw [hg]; exact Nat.ne_of_gt (blk_lt (g := gb510) (b_ BK510)) : gb545 ≠ gb510)); replace BK510 := A_ (blk_below (g := gb510) (b_ BK510) hb); have NB529_545 := A_ ((by rw [hg]; exact Nat.ne_of_lt (blk_lt (g := gb529) (b_ BK529)) : gb529 ≠ gb545)); have NB545_529 := A_ ((by rw [hg]; exact Nat.ne_of_gt (blk_lt (g := gb529) (b_ BK529)) : gb545 ≠ gb529)); replace BK529 := A_ (blk_below (g := gb529) (b_ BK529) hb); clear hb hbox hg
            refine hK.out _ _ (tallysticklaw19_PlanMissing.held0_ BK504 BK529) (fun hHeld => ?_)
            clear hK K
            refine norm_ (a' := ?_) ?_ ?_
            rotate_left
            ·show Act.put _ (some 14) _ = _
             simp only [Act.put, List.setIfInBounds_toArray, List.set_cons_zero, List.set_cons_succ, i64_w, i32_w]
             rfl
            exact norm_ (by first | (simp only [putAll, Act.put, List.setIfInBounds_toArray, List.set_cons_zero, List.set_cons_succ]; done) | (simp only [putAll, Act.put, List.setIfInBounds_toArray, List.set_cons_zero, List.set_cons_succ]; rfl)) (hJ1_3_5_6_11 (v531, v534, v537, .slice Ao69 y539.length co69, gb545) _ ⟨hHeld, (Kd.N_mono (n_ HO538) (fun _ hk => ⟨hk.1.1, ⟨hk.1.2.1, ⟨hk.1.2.2.1, ⟨hk.1.2.2.2.1, ⟨hk.1.2.2.2.2, hk.2⟩⟩⟩⟩⟩)), (Kd.N_mono (n_ HO541) (fun _ hk => ⟨hk.1.1, ⟨hk.1.2.1, ⟨hk.1.2.2.1, ⟨hk.1.2.2.2, hk.2⟩⟩⟩⟩)), (Kd.V_mono (v_ HO_1) (fun _ hk => ⟨hk.1.1, ⟨hk.1.2.1, ⟨hk.1.2.2.1, ⟨hk.1.2.2.2.1, ⟨hk.1.2.2.2.2.1, ⟨hk.1.2.2.2.2.2, hk.2⟩⟩⟩⟩⟩⟩)), (Kd.V_mono (v_ HO_9) (fun _ hk => ⟨hk.1.1, ⟨hk.1.2.1, ⟨hk.1.2.2.1, ⟨hk.1.2.2.2.1, ⟨hk.1.2.2.2.2.1, ⟨hk.1.2.2.2.2.2, hk.2⟩⟩⟩⟩⟩⟩)), (b_ BK504), (b_ BK510), (b_ BK529), (b_ BK545), GW545.out, GE545.out, NB504_545.out, NB545_504.out, NB510_545.out, NB545_510.out, NB529_545.out, NB545_529.out, (hB_ w)⟩)
           rintro ⟨v531, v534, v537, v540, gb545⟩ w69 ⟨hS_, h0_, h1_, h2_, h3_, h4_, h5_, h6_, h7_, h8_, h9_, h10_, h11_, h12_, h13_, h14_, h15_, h16_⟩
           try dsimp only at h0_ h1_ h2_ h3_ h4_ h5_ h6_ h7_ h8_ h9_ h10_ h11_ h12_ h13_ h14_ h15_ h16_
           have HO538 := A_ h0_; have HO541 := A_ h1_; replace HO_1 := A_ h2_; replace HO_9 := A_ h3_; replace BK504 := A_ h4_; replace BK510 := A_ h5_; replace BK529 := A_ h6_; have BK545 := A_ h7_; have GW545 := A_ h8_; have GE545 := A_ h9_; have NB504_545 := A_ h10_; have NB545_504 := A_ h11_; have NB510_545 := A_ h12_; have NB545_510 := A_ h13_; have NB529_545 := A_ h14_; have NB545_529 := A_ h15_; replace HB := A_ h16_; clear HO_530002 HO_530003 HO_530004 h0_ h1_ h2_ h3_ h4_ h5_ h6_ h7_ h8_ h9_ h10_ h11_ h12_ h13_ h14_ h15_ h16_
           have hHeld : w69.cell? ⟨gb504, 0, none⟩ = some (.int .i64 a0_0) ∧ w69.cell? ⟨gb504, 1, none⟩ = some (.int .i64 a0_1) ∧ w69.cell? ⟨gb504, 2, none⟩ = some (.int .i64 a0_2) ∧ w69.cell? ⟨gb529, 0, none⟩ = some (.int .i64 t516) ∧ w69.cell? ⟨gb529, 1, none⟩ = some (.int .i64 t517) ∧ w69.cell? ⟨gb529, 2, none⟩ = some (.slice Ao51 t518.length co51) ∧ w69.cell? ⟨gb529, 3, none⟩ = some (.slice Ao52 t521.length co52) ∧ w69.cell? ⟨gb529, 4, none⟩ = some (.slice Ao53 t524.length co53) ∧ w69.cell? ⟨gb529, 5, none⟩ = some (.bool t527) := hS_
           obtain ⟨Ao70, co70, eo70⟩ := Kd.N_slice HO541.out
           (first | subst eo70 | (injection eo70 with f1_ f2_ f3_; have f4_ := f1_.symm; have f5_ := f3_.symm; clear f1_ f2_ f3_; subst f4_; subst f5_))
           refine norm_ (a' := ?_) ?_ ?_
           rotate_left
           ·simp only [putAll, Act.put, List.setIfInBounds_toArray, List.set_cons_zero, List.set_cons_succ]
            rfl
           refine one_ (i := 7) (N := some 74) #[true, true, true, true, true, true, true, true, false, false, false, true, false, false] rfl rfl (one_of HT_.out (by kernel_rfl)) (by decide) (fun K hK => ?_)
           refine goes_ Try.func17 (by kernel_rfl) rfl #[.agg #[.int .i64 a0_0, .int .i64 a0_1, .int .i64 a0_2], .slice Ao70 y539.length co70] (by rfl) rfl rfl (by (try simp only [List.map_toArray, List.map_cons, List.map_nil]); first | done | rfl | (simp only [List.length_drop, List.length_take]; rfl)) ?_
           with_reducible refine (plan_Missing.calls a0_0 a0_1 a0_2 _ _ y539 t542 t543 t544 _ ?side1 ?side2 A58.out).mono ?_
           (case side1 => repeat (first | exact (Kd.N_reads' HO541.out).2.2 | (with_reducible refine Kd.C_alloc ?_ _) | (with_reducible refine Kd.C_drewN ?_ _) | (with_reducible refine Kd.C_drew ?_)))
           (case side2 => exact (Kd.N_reads' HO541.out).2.1)
           rintro e w71 ⟨rfl, hb⟩
           refine ⟨_, rfl, ?_⟩
           replace HO_1 := A_ (Kd.V_below (v_ HO_1) hb); replace HO_9 := A_ (Kd.V_below (v_ HO_9) hb); replace HO538 := A_ (Kd.N_below (n_ HO538) hb); replace HO541 := A_ (Kd.N_below (n_ HO541) hb); replace BK504 := A_ (blk_below (g := gb504) (b_ BK504) hb); replace BK510 := A_ (blk_below (g := gb510) (b_ BK510) hb); replace BK529 := A_ (blk_below (g := gb529) (b_ BK529) hb); replace BK545 := A_ (blk_below (g := gb545) (b_ BK545) hb); replace HB := A_ (below_step (hB_ w) hb)
           (try clear hb)
           (try clear hb2)
           (try clear hk)
           (try clear hi)
           refine hK.out _ _ (tallysticklaw19_PlanMissing.held0_ BK504 BK529) (fun hHeld => ?_)
           clear hK K
           refine norm_ (a' := ?_) ?_ ?_
           rotate_left
           ·show Act.put _ (some 74) _ = _
            simp only [Act.put, List.setIfInBounds_toArray, List.set_cons_zero, List.set_cons_succ, i64_w, i32_w]
            rfl
           refine pure_ (i := 8) (N := some 66) (v := ?_) (a' := ?_) #[true, true, true, true, true, true, true, true, true, false, false, true, false, false] rfl rfl (any_of HT_.out (by kernel_rfl)) (fun _ _ _ h => h) (Or.inl ⟨by rfl, ?_⟩) ?_ ?_
           rotate_left
           ·intro w'
            go_simp
            with_reducible rfl
           rotate_left
           ·simp only [Act.put, List.setIfInBounds_toArray, List.set_cons_zero, List.set_cons_succ, i64_w, i32_w]
            rfl
           refine pure_ (i := 9) (N := some 75) (v := ?_) (a' := ?_) #[true, true, true, true, true, true, true, true, true, true, false, true, false, false] rfl rfl (any_of HT_.out (by kernel_rfl)) (fun _ _ _ h => h) (Or.inl ⟨by rfl, ?_⟩) ?_ ?_
           rotate_left
           ·intro w'
            go_simp
            with_reducible rfl
           rotate_left
           ·simp only [Act.put, List.setIfInBounds_toArray, List.set_cons_zero, List.set_cons_succ, i64_w, i32_w]
            rfl
           refine pure_ (i := 10) (N := some 76) (v := ?_) (a' := ?_) #[true, true, true, true, true, true, true, true, true, true, true, true, false, false] rfl rfl (any_of HT_.out (by kernel_rfl)) (fun _ _ _ h => h) (Or.inl ⟨by rfl, ?_⟩) ?_ ?_
           rotate_left
           ·intro w'
            go_simp
            with_reducible rfl
           rotate_left
           ·simp only [Act.put, List.setIfInBounds_toArray, List.set_cons_zero, List.set_cons_succ, i64_w, i32_w]
            rfl
           exact norm_ (by first | (simp only [putAll, Act.put, List.setIfInBounds_toArray, List.set_cons_zero, List.set_cons_succ]; done) | (simp only [putAll, Act.put, List.setIfInBounds_toArray, List.set_cons_zero, List.set_cons_succ]; rfl)) (hJ1_3_5_6_7_11 (v531, v534, v537, .slice Ao70 y539.length co70, gb545) _ ⟨hHeld, (n_ HO538), (n_ HO541), (v_ HO_1), (v_ HO_9), (b_ BK504), (b_ BK510), (b_ BK529), (b_ BK545), GW545.out, GE545.out, NB504_545.out, NB545_504.out, NB510_545.out, NB545_510.out, NB529_545.out, NB545_529.out, (hB_ w)⟩)
          rintro ⟨v531, v534, v537, v540⟩ w70 ⟨hS_, h0_, h1_, h2_, h3_, h4_, h5_, h6_, h7_⟩
          try dsimp only at h0_ h1_ h2_ h3_ h4_ h5_ h6_ h7_
          have HO538 := A_ h0_; have HO541 := A_ h1_; replace HO_1 := A_ h2_; replace HO_9 := A_ h3_; replace BK504 := A_ h4_; replace BK510 := A_ h5_; replace BK529 := A_ h6_; replace HB := A_ h7_; clear HO_530002 HO_530003 HO_530004 h0_ h1_ h2_ h3_ h4_ h5_ h6_ h7_
          have hHeld : w70.cell? ⟨gb504, 0, none⟩ = some (.int .i64 a0_0) ∧ w70.cell? ⟨gb504, 1, none⟩ = some (.int .i64 a0_1) ∧ w70.cell? ⟨gb504, 2, none⟩ = some (.int .i64 a0_2) ∧ w70.cell? ⟨gb529, 0, none⟩ = some (.int .i64 t516) ∧ w70.cell? ⟨gb529, 1, none⟩ = some (.int .i64 t517) ∧ w70.cell? ⟨gb529, 2, none⟩ = some (.slice Ao51 t518.length co51) ∧ w70.cell? ⟨gb529, 3, none⟩ = some (.slice Ao52 t521.length co52) ∧ w70.cell? ⟨gb529, 4, none⟩ = some (.slice Ao53 t524.length co53) ∧ w70.cell? ⟨gb529, 5, none⟩ = some (.bool t527) := hS_
          refine norm_ (a' := ?_) ?_ ?_
          rotate_left
          ·simp only [putAll, Act.put, List.setIfInBounds_toArray, List.set_cons_zero, List.set_cons_succ]
           rfl
          refine one_ (i := 11) (N := some 14) #[true, true, true, true, true, true, true, true, true, true, true, true, false, false] rfl rfl (one_of HT_.out (by kernel_rfl)) (by decide) (fun K hK => ?_)
          refine box_step ?hg (N := 14) ?hd (cs := #[.int .i64 0, .int .i64 0]) (t := 29) ?hr ?_; (case hd => rfl); (case hg => rfl); (case hr => first | (go_simp; done) | (go_simp; rfl))
          intro gb545 hg w71 hbox hb
          replace HO_1 := A_ (Kd.V_below (Kd.V_elderB (v_ HO_1) gb545 (Nat.le_of_eq hg.symm)) hb); replace HO_9 := A_ (Kd.V_below (Kd.V_elderB (v_ HO_9) gb545 (Nat.le_of_eq hg.symm)) hb); replace HO538 := A_ (Kd.N_below (Kd.N_elderB (n_ HO538) gb545 (Nat.le_of_eq hg.symm)) hb); replace HO541 := A_ (Kd.N_below (Kd.N_elderB (n_ HO541) gb545 (Nat.le_of_eq hg.symm)) hb); have BK545 := A_ hbox; have GW545 := A_ ((by rw [hg]; exact (below_size (hB_ w)) : w.heap.size ≤ gb545)); have GE545 := A_ ((by rw [hg]; exact (below_size (hB_ w)) : w.heap.size ≤ gb545)); replace HB := A_ (below_step (hB_ w) hb); have NB504_545 := A_ ((by rw [hg]; exact Nat.ne_of_lt (blk_lt (g := gb504) (b_ BK504)) : gb504 ≠ gb545)); have NB545_504 := A_ ((by rw [hg]; exact Nat.ne_of_gt (blk_lt (g := gb504) (b_ BK504)) : gb545 ≠ gb504)); replace BK504 := A_ (blk_below (g := gb504) (b_ BK504) hb); have NB510_545 := A_ ((by rw [hg]; exact Nat.ne_of_lt (blk_lt (g := gb510) (b_ BK510)) : gb510 ≠ gb545)); have NB545_510 := A_ ((by rw [hg]; exact Nat.ne_of_gt (blk_lt (g := gb510) (b_ BK510)) : gb545 ≠ gb510)); replace BK510 := A_ (blk_below (g := gb510) (b_ BK510) hb); have NB529_545 := A_ ((by rw [hg]; exact Nat.ne_of_lt (blk_lt (g := gb529) (b_ BK529)) : gb529 ≠ gb545)); have NB545_529 := A_ ((by rw [hg]; exact Nat.ne_of_gt (blk_lt (g := gb529) (b_ BK529)) : gb545 ≠ gb529)); replace BK529 := A_ (blk_below (g := gb529) (b_ BK529) hb); clear hb hbox hg
          refine hK.out _ _ (tallysticklaw19_PlanMissing.held0_ BK504 BK529) (fun hHeld => ?_)
          clear hK K
          refine norm_ (a' := ?_) ?_ ?_
          rotate_left
          ·show Act.put _ (some 14) _ = _
           simp only [Act.put, List.setIfInBounds_toArray, List.set_cons_zero, List.set_cons_succ, i64_w, i32_w]
           rfl
          exact norm_ (by first | (simp only [putAll, Act.put, List.setIfInBounds_toArray, List.set_cons_zero, List.set_cons_succ]; done) | (simp only [putAll, Act.put, List.setIfInBounds_toArray, List.set_cons_zero, List.set_cons_succ]; rfl)) (hJ1_3_5_6_7_11 (v531, v534, v537, v540, gb545) _ ⟨hHeld, (Kd.N_mono (n_ HO538) (fun _ hk => ⟨hk.1.1, ⟨hk.1.2.1, ⟨hk.1.2.2.1, ⟨hk.1.2.2.2.1, ⟨hk.1.2.2.2.2, hk.2⟩⟩⟩⟩⟩)), (Kd.N_mono (n_ HO541) (fun _ hk => ⟨hk.1.1, ⟨hk.1.2.1, ⟨hk.1.2.2.1, ⟨hk.1.2.2.2, hk.2⟩⟩⟩⟩)), (Kd.V_mono (v_ HO_1) (fun _ hk => ⟨hk.1.1, ⟨hk.1.2.1, ⟨hk.1.2.2.1, ⟨hk.1.2.2.2.1, ⟨hk.1.2.2.2.2.1, ⟨hk.1.2.2.2.2.2, hk.2⟩⟩⟩⟩⟩⟩)), (Kd.V_mono (v_ HO_9) (fun _ hk => ⟨hk.1.1, ⟨hk.1.2.1, ⟨hk.1.2.2.1, ⟨hk.1.2.2.2.1, ⟨hk.1.2.2.2.2.1, ⟨hk.1.2.2.2.2.2, hk.2⟩⟩⟩⟩⟩⟩)), (b_ BK504), (b_ BK510), (b_ BK529), (b_ BK545), GW545.out, GE545.out, NB504_545.out, NB545_504.out, NB510_545.out, NB545_510.out, NB529_545.out, NB545_529.out, (hB_ w)⟩)
         rintro ⟨v531, v534, v537, v540, gb545⟩ w71 ⟨hS_, h0_, h1_, h2_, h3_, h4_, h5_, h6_, h7_, h8_, h9_, h10_, h11_, h12_, h13_, h14_, h15_, h16_⟩
         try dsimp only at h0_ h1_ h2_ h3_ h4_ h5_ h6_ h7_ h8_ h9_ h10_ h11_ h12_ h13_ h14_ h15_ h16_
         have HO538 := A_ h0_; have HO541 := A_ h1_; replace HO_1 := A_ h2_; replace HO_9 := A_ h3_; replace BK504 := A_ h4_; replace BK510 := A_ h5_; replace BK529 := A_ h6_; have BK545 := A_ h7_; have GW545 := A_ h8_; have GE545 := A_ h9_; have NB504_545 := A_ h10_; have NB545_504 := A_ h11_; have NB510_545 := A_ h12_; have NB545_510 := A_ h13_; have NB529_545 := A_ h14_; have NB545_529 := A_ h15_; replace HB := A_ h16_; clear HO_530002 HO_530003 HO_530004 h0_ h1_ h2_ h3_ h4_ h5_ h6_ h7_ h8_ h9_ h10_ h11_ h12_ h13_ h14_ h15_ h16_
         have hHeld : w71.cell? ⟨gb504, 0, none⟩ = some (.int .i64 a0_0) ∧ w71.cell? ⟨gb504, 1, none⟩ = some (.int .i64 a0_1) ∧ w71.cell? ⟨gb504, 2, none⟩ = some (.int .i64 a0_2) ∧ w71.cell? ⟨gb529, 0, none⟩ = some (.int .i64 t516) ∧ w71.cell? ⟨gb529, 1, none⟩ = some (.int .i64 t517) ∧ w71.cell? ⟨gb529, 2, none⟩ = some (.slice Ao51 t518.length co51) ∧ w71.cell? ⟨gb529, 3, none⟩ = some (.slice Ao52 t521.length co52) ∧ w71.cell? ⟨gb529, 4, none⟩ = some (.slice Ao53 t524.length co53) ∧ w71.cell? ⟨gb529, 5, none⟩ = some (.bool t527) := hS_
         refine norm_ (a' := ?_) ?_ ?_
         rotate_left
         ·simp only [putAll, Act.put, List.setIfInBounds_toArray, List.set_cons_zero, List.set_cons_succ]
          rfl
         refine one_ (i := 12) (N := none) #[true, true, true, true, true, true, true, true, true, true, true, true, true, false] rfl rfl (one_of HT_.out (by kernel_rfl)) (by decide) (fun K hK => ?_)
         have hs72 : w71.cell? ⟨gb545, 0, none⟩ = some (.int .i64 0) := (blk_cell BK545.out 0).trans rfl
         have hfs72 := blk_frozen BK545.out 0
         have hns72_0 := NB504_545.out; have hns72_1 := NB510_545.out
         have hns72_2 := NB529_545.out; have hms72_0 := NB545_504.out
         have hms72_1 := NB545_510.out; have hms72_2 := NB545_529.out
         have hs73 : w71.cell? ⟨gb545, 1, none⟩ = some (.int .i64 0) := (blk_cell BK545.out 1).trans rfl
         have hfs73 := blk_frozen BK545.out 1
         have hns73_0 := NB504_545.out; have hns73_1 := NB510_545.out
         have hns73_2 := NB529_545.out; have hms73_0 := NB545_504.out
         have hms73_1 := NB545_510.out; have hms73_2 := NB545_529.out
         refine skip_ (w1 := ?_) (by rfl) rfl ?_ ?_
         rotate_left
         ·go_simp
          rfl
         refine hK.out _ _ ⟨((cell_far (p := ⟨gb545, _, none⟩) NB504_545.out _).trans (((cell_far (p := ⟨gb545, _, none⟩) NB504_545.out _).trans (hHeld.1)))), ((cell_far (p := ⟨gb545, _, none⟩) NB504_545.out _).trans (((cell_far (p := ⟨gb545, _, none⟩) NB504_545.out _).trans (hHeld.2.1)))), ((cell_far (p := ⟨gb545, _, none⟩) NB504_545.out _).trans (((cell_far (p := ⟨gb545, _, none⟩) NB504_545.out _).trans (hHeld.2.2.1)))), ((cell_far (p := ⟨gb545, _, none⟩) NB529_545.out _).trans (((cell_far (p := ⟨gb545, _, none⟩) NB529_545.out _).trans (hHeld.2.2.2.1)))), ((cell_far (p := ⟨gb545, _, none⟩) NB529_545.out _).trans (((cell_far (p := ⟨gb545, _, none⟩) NB529_545.out _).trans (hHeld.2.2.2.2.1)))), ((cell_far (p := ⟨gb545, _, none⟩) NB529_545.out _).trans (((cell_far (p := ⟨gb545, _, none⟩) NB529_545.out _).trans (hHeld.2.2.2.2.2.1)))), ((cell_far (p := ⟨gb545, _, none⟩) NB529_545.out _).trans (((cell_far (p := ⟨gb545, _, none⟩) NB529_545.out _).trans (hHeld.2.2.2.2.2.2.1)))), ((cell_far (p := ⟨gb545, _, none⟩) NB529_545.out _).trans (((cell_far (p := ⟨gb545, _, none⟩) NB529_545.out _).trans (hHeld.2.2.2.2.2.2.2.1)))), ((cell_far (p := ⟨gb545, _, none⟩) NB529_545.out _).trans (((cell_far (p := ⟨gb545, _, none⟩) NB529_545.out _).trans (hHeld.2.2.2.2.2.2.2.2))))⟩ (fun hHeld => ?_)
         clear hK K
         refine pure_ (i := 13) (N := some 15) (v := ?_) (a' := ?_) #[true, true, true, true, true, true, true, true, true, true, true, true, true, true] rfl rfl (any_of HT_.out (by kernel_rfl)) (fun _ _ _ h => h) (Or.inl ⟨by rfl, ?_⟩) ?_ ?_
         rotate_left
         ·intro w'
          go_simp
          with_reducible rfl
         rotate_left
         ·simp only [Act.put, List.setIfInBounds_toArray, List.set_cons_zero, List.set_cons_succ, i64_w, i32_w]
          rfl
         refine done_ (done_of HT_.out (by kernel_rfl)) ?_
         have H := HX59.out; clear HX59
         by_cases c59 : t544 = true
         ·subst c59
          have H1 : (tallysticklaw19_PlanMissing.l1 kj40 t505 t512 x10_1 (-1) 0 t542 t543) = some r := by rw [if_pos rfl] at H; exact H
          clear H
          have H := H1
          clear H1
          have H' := A_ H
          clear H
          try go_wp2
          go_loopg [16, 17] kj40 (fun kq v16 v17 w' => ∃ (x16_3 : Int) (x17_3 : Int), v16 = .int .i64 x16_3 ∧ v17 = .int .i64 x17_3 ∧ AsC (tallysticklaw19_PlanMissing.l1 kq t505 t512 x10_1 x16_3 x17_3 t542 t543 = some r) ∧ AsC (kq ≤ kj40) ∧ AsC (Kd.V k29 29 w' w.heap.size (fun k_ => (P1_ k_ ∨ w.heap.size ≤ k_) ∧ k_ ≠ gb504 ∧ k_ ≠ gb510 ∧ k_ ≠ gb545) (.slice Ao42 t512.length co42) t512) ∧ AsC (w'.heap[gb504]? = some (.cells #[.int .i64 a0_0, .int .i64 a0_1, .int .i64 a0_2] 23 (0, 0))) ∧ AsC (w'.heap[gb510]? = some (.cells #[.int .i64 t507, .int .i64 t508] 29 (0, 0))) ∧ AsC (w'.heap[gb545]? = some (.cells #[.int .i64 t542, .int .i64 t543] 29 (0, 0))) ∧ AsC (Below w.heap.size w w'))
          case atStart => exact ⟨((-1)), (0), (by first | rfl | (simp; done) | (simp [*]; done)), (by first | rfl | (simp; done) | (simp [*]; done)), H', ⟨Nat.le_refl _⟩, ⟨by (with_reducible repeat (first|apply vA_|apply vN_|apply vD_)); exact Kd.V_mono (Kd.V_far (p := ⟨gb545, 1, none⟩) (Kd.V_far (p := ⟨gb545, 0, none⟩) (Kd.V_mono HO_9.out (fun k_ hk => (⟨hk, hk.2.2.2.2.2.2⟩ : _ ∧ k_ ≠ gb545))) (fun _ hk => hk.2) (.int .i64 t542)) (fun _ hk => hk.2) (.int .i64 t543)) (fun _ hk => ⟨hk.1.1, ⟨hk.1.2.2.2.1, ⟨hk.1.2.2.2.2.1, hk.1.2.2.2.2.2.2⟩⟩⟩)⟩, ⟨by (with_reducible repeat (first|apply bA_|apply bN_|apply bD_)); refine blk_far ?_ NB504_545.out _; (with_reducible repeat (first|apply bA_|apply bN_|apply bD_)); refine blk_far ?_ NB504_545.out _; (with_reducible repeat (first|apply bA_|apply bN_|apply bD_)); exact BK504.out⟩, ⟨by (with_reducible repeat (first|apply bA_|apply bN_|apply bD_)); refine blk_far ?_ NB510_545.out _; (with_reducible repeat (first|apply bA_|apply bN_|apply bD_)); refine blk_far ?_ NB510_545.out _; (with_reducible repeat (first|apply bA_|apply bN_|apply bD_)); exact BK510.out⟩, ⟨by (with_reducible repeat (first|apply bA_|apply bN_|apply bD_)); refine blk_put (cs := #[.int .i64 t542, .int .i64 0]) ?_ 1 _ rfl; (with_reducible repeat (first|apply bA_|apply bN_|apply bD_)); refine blk_put (cs := #[.int .i64 0, .int .i64 0]) ?_ 0 _ rfl; (with_reducible repeat (first|apply bA_|apply bN_|apply bD_)); exact BK545.out⟩, ⟨hB_ w⟩⟩
          case round =>
           clear H'; try clear c1; try clear p2; try clear c5; try clear c17; try clear c57
           obtain ⟨x16_3, x17_3, rfl, rfl, HA, HK3, HO_9, BK504, BK510, BK545, HB⟩ := hrel
           cases gk with
           | zero => exact absurd HA.out (by simp [tallysticklaw19_PlanMissing.l1])
           | succ k3 =>
            have H := HA.out; clear HA
            simp only [tallysticklaw19_PlanMissing.l1] at H
            by_cases c74 : x17_3 < (t512.length : Int)
            ·rw [if_pos c74] at H
             have c74b0 : decide (x17_3 < (t512.length : Int)) = true := decide_eq_true c74
             clear c74
             by_cases c75 : 0 ≤ x17_3
             ·rw [if_pos c75] at H
              have c75b0 : decide (0 ≤ x17_3) = true := decide_eq_true c75
              clear c75
              by_cases c76 : (((rd_T29 t512 x17_3).f0) == t542 && (((rd_T29 t512 x17_3).f1) == t543)) = true
              ·rw [if_pos c76] at H
               have c76b0 : (((rd_T29 t512 x17_3).f0) == t542 && (((rd_T29 t512 x17_3).f1) == t543)) = true := c76
               (try (have c76b1 : decide (((rd_T29 t512 x17_3).f0) = t542 && (((rd_T29 t512 x17_3).f1) == t543)) = true := by simpa using c76))
               (try (have c76b2 : (((rd_T29 t512 x17_3).f0) == t542 && (((rd_T29 t512 x17_3).f1) == t543)) = true := by simpa using c76))
               clear c76
               have H' := A_ H
               clear H
               try go_wp2
               replace HO_9 := A_ (Kd.V_drew HO_9.out); replace BK504 := A_ (blk_drew BK504.out); replace BK510 := A_ (blk_drew BK510.out); replace BK545 := A_ (blk_drew BK545.out); replace HB := A_ (below_drew1 HB.out)
               have p546 : 0 ≤ (x17_3 : Int) := of_decide_eq_true (by first | (with_reducible assumption) | assumption)
               have q546 : x17_3 < (t512.length : Int) := of_decide_eq_true (by first | (with_reducible assumption) | assumption)
               obtain ⟨ad546, e546, hx546_0, hx546_1⟩ := at_T29 (Kd.V_reads' HO_9.out).2.2 x17_3 p546 q546
               cases e546
               replace p546 := eq_true p546
               replace q546 := eq_true q546
               refine start_ (n := 6) (S := fun w' => w'.cell? ⟨gb545, 0, none⟩ = some (.int .i64 t542) ∧ w'.cell? ⟨gb545, 1, none⟩ = some (.int .i64 t543) ∧ w'.cell? (ad546.add ((x17_3).toNat * 2)) = some (.int .i64 ((rd_T29 t512 x17_3).f0)) ∧ w'.cell? ⟨(ad546.add ((x17_3).toNat * 2)).block, (ad546.add ((x17_3).toNat * 2)).off + 1, none⟩ = some (.int .i64 ((rd_T29 t512 x17_3).f1))) (ds := []) #[false, false, false, false, false, false] (by kernel_rfl) rfl rfl ⟨(blk_cell BK545.out 0).trans rfl, (blk_cell BK545.out 1).trans rfl, hx546_0, hx546_1⟩ (fun hHeld => ?_)
               generalize wr.drew = w77 at HO_9 BK504 BK510 BK545 HB hx546_0 hx546_1 hHeld ⊢
               refine pure_ (i := 0) (N := some 86) (v := ?_) (a' := ?_) #[true, false, false, false, false, false] rfl rfl (by kernel_rfl) (fun _ _ _ h => h) (Or.inl ⟨by rfl, ?_⟩) ?_ ?_
               rotate_left
               ·intro w'
                go_simp
                with_reducible rfl
               rotate_left
               ·simp only [Act.put, List.setIfInBounds_toArray, List.set_cons_zero, List.set_cons_succ, i64_w, i32_w]
                rfl
               refine pure_ (i := 1) (N := some 87) (v := ?_) (a' := ?_) #[true, true, false, false, false, false] rfl rfl (by kernel_rfl) (fun _ _ _ h => h) (Or.inl ⟨by rfl, ?_⟩) ?_ ?_
               rotate_left
               ·intro w'
                go_simp
                with_reducible rfl
               rotate_left
               ·simp only [Act.put, List.setIfInBounds_toArray, List.set_cons_zero, List.set_cons_succ, i64_w, i32_w]
                rfl
               refine pure_ (i := 2) (N := some 88) (v := ?_) (a' := ?_) #[true, true, true, false, false, false] rfl rfl (by kernel_rfl) (fun _ _ _ h => h) (Or.inl ⟨by rfl, ?_⟩) ?_ ?_
               rotate_left
               ·intro w'
                go_simp
                with_reducible rfl
               rotate_left
               ·simp only [Act.put, List.setIfInBounds_toArray, List.set_cons_zero, List.set_cons_succ, i64_w, i32_w]
                rfl
               refine take_ (i := 3) (N := some 89) (v := ?_) (a' := ?_) #[true, true, true, true, false, false] rfl rfl (by kernel_rfl) (fun _ _ _ h => h) (Or.inl ⟨by rfl, ?_⟩) hHeld ?_ ?_
               rotate_left
               ·rintro w' ⟨s0, s1, s2, s3⟩
                go_simp
                with_reducible rfl
               rotate_left
               ·simp only [Act.put, List.setIfInBounds_toArray, List.set_cons_zero, List.set_cons_succ, i64_w, i32_w]
                rfl
               refine take_ (i := 4) (N := some 90) (v := ?_) (a' := ?_) #[true, true, true, true, true, false] rfl rfl (by kernel_rfl) (fun _ _ _ h => h) (Or.inl ⟨by rfl, ?_⟩) hHeld ?_ ?_
               rotate_left
               ·rintro w' ⟨s0, s1, s2, s3⟩
                go_simp
                with_reducible rfl
               rotate_left
               ·simp only [Act.put, List.setIfInBounds_toArray, List.set_cons_zero, List.set_cons_succ, i64_w, i32_w]
                rfl
               refine pure_ (i := 5) (N := some 91) (v := ?_) (a' := ?_) #[true, true, true, true, true, true] rfl rfl (by kernel_rfl) (fun _ _ _ h => h) (Or.inl ⟨by rfl, ?_⟩) ?_ ?_
               rotate_left
               ·intro w'
                go_simp
                with_reducible rfl
               rotate_left
               ·simp only [Act.put, List.setIfInBounds_toArray, List.set_cons_zero, List.set_cons_succ, i64_w, i32_w]
                rfl
               refine done_ (by kernel_rfl) ?_
               try go_wp2
               go_roundg k3
               case measure => have := HK1.out; have := HJ40.out; have := HK3.out; omega
               case rel => exact ⟨(x17_3), (wrap64 (x17_3 + 1)), (by first | rfl | (simp; done) | (simp [*]; done)), (by first | rfl | (simp; done) | (simp [*]; done)), H', ⟨by have := HK1.out; have := HJ40.out; have := HK3.out; omega⟩, ⟨v_ HO_9⟩, ⟨b_ BK504⟩, ⟨b_ BK510⟩, ⟨b_ BK545⟩, ⟨hB_ w⟩⟩
              rw [if_neg c76] at H
              have c76b0 : (((rd_T29 t512 x17_3).f0) == t542 && (((rd_T29 t512 x17_3).f1) == t543)) = false := by simpa using c76
              (try (have c76b1 : decide (((rd_T29 t512 x17_3).f0) = t542 && (((rd_T29 t512 x17_3).f1) == t543)) = false := by simpa using c76))
              (try (have c76b2 : (((rd_T29 t512 x17_3).f0) == t542 && (((rd_T29 t512 x17_3).f1) == t543)) = false := by simpa using c76))
              (try (have c76b3 : ¬ (((rd_T29 t512 x17_3).f0) = t542 && (((rd_T29 t512 x17_3).f1) == t543)) := by simpa using c76))
              clear c76
              have H' := A_ H
              clear H
              try go_wp2
              replace HO_9 := A_ (Kd.V_drew HO_9.out); replace BK504 := A_ (blk_drew BK504.out); replace BK510 := A_ (blk_drew BK510.out); replace BK545 := A_ (blk_drew BK545.out); replace HB := A_ (below_drew1 HB.out)
              have p546 : 0 ≤ (x17_3 : Int) := of_decide_eq_true (by first | (with_reducible assumption) | assumption)
              have q546 : x17_3 < (t512.length : Int) := of_decide_eq_true (by first | (with_reducible assumption) | assumption)
              obtain ⟨ad546, e546, hx546_0, hx546_1⟩ := at_T29 (Kd.V_reads' HO_9.out).2.2 x17_3 p546 q546
              cases e546
              replace p546 := eq_true p546
              replace q546 := eq_true q546
              refine start_ (n := 6) (S := fun w' => w'.cell? ⟨gb545, 0, none⟩ = some (.int .i64 t542) ∧ w'.cell? ⟨gb545, 1, none⟩ = some (.int .i64 t543) ∧ w'.cell? (ad546.add ((x17_3).toNat * 2)) = some (.int .i64 ((rd_T29 t512 x17_3).f0)) ∧ w'.cell? ⟨(ad546.add ((x17_3).toNat * 2)).block, (ad546.add ((x17_3).toNat * 2)).off + 1, none⟩ = some (.int .i64 ((rd_T29 t512 x17_3).f1))) (ds := []) #[false, false, false, false, false, false] (by kernel_rfl) rfl rfl ⟨(blk_cell BK545.out 0).trans rfl, (blk_cell BK545.out 1).trans rfl, hx546_0, hx546_1⟩ (fun hHeld => ?_)
              generalize wr.drew = w78 at HO_9 BK504 BK510 BK545 HB hx546_0 hx546_1 hHeld ⊢
              refine pure_ (i := 0) (N := some 86) (v := ?_) (a' := ?_) #[true, false, false, false, false, false] rfl rfl (by kernel_rfl) (fun _ _ _ h => h) (Or.inl ⟨by rfl, ?_⟩) ?_ ?_
              rotate_left
              ·intro w'
               go_simp
               with_reducible rfl
              rotate_left
              ·simp only [Act.put, List.setIfInBounds_toArray, List.set_cons_zero, List.set_cons_succ, i64_w, i32_w]
               rfl
              refine pure_ (i := 1) (N := some 87) (v := ?_) (a' := ?_) #[true, true, false, false, false, false] rfl rfl (by kernel_rfl) (fun _ _ _ h => h) (Or.inl ⟨by rfl, ?_⟩) ?_ ?_
              rotate_left
              ·intro w'
               go_simp
               with_reducible rfl
              rotate_left
              ·simp only [Act.put, List.setIfInBounds_toArray, List.set_cons_zero, List.set_cons_succ, i64_w, i32_w]
               rfl
              refine pure_ (i := 2) (N := some 88) (v := ?_) (a' := ?_) #[true, true, true, false, false, false] rfl rfl (by kernel_rfl) (fun _ _ _ h => h) (Or.inl ⟨by rfl, ?_⟩) ?_ ?_
              rotate_left
              ·intro w'
               go_simp
               with_reducible rfl
              rotate_left
              ·simp only [Act.put, List.setIfInBounds_toArray, List.set_cons_zero, List.set_cons_succ, i64_w, i32_w]
               rfl
              refine take_ (i := 3) (N := some 89) (v := ?_) (a' := ?_) #[true, true, true, true, false, false] rfl rfl (by kernel_rfl) (fun _ _ _ h => h) (Or.inl ⟨by rfl, ?_⟩) hHeld ?_ ?_
              rotate_left
              ·rintro w' ⟨s0, s1, s2, s3⟩
               go_simp
               with_reducible rfl
              rotate_left
              ·simp only [Act.put, List.setIfInBounds_toArray, List.set_cons_zero, List.set_cons_succ, i64_w, i32_w]
               rfl
              refine take_ (i := 4) (N := some 90) (v := ?_) (a' := ?_) #[true, true, true, true, true, false] rfl rfl (by kernel_rfl) (fun _ _ _ h => h) (Or.inl ⟨by rfl, ?_⟩) hHeld ?_ ?_
              rotate_left
              ·rintro w' ⟨s0, s1, s2, s3⟩
               go_simp
               with_reducible rfl
              rotate_left
              ·simp only [Act.put, List.setIfInBounds_toArray, List.set_cons_zero, List.set_cons_succ, i64_w, i32_w]
               rfl
              refine pure_ (i := 5) (N := some 91) (v := ?_) (a' := ?_) #[true, true, true, true, true, true] rfl rfl (by kernel_rfl) (fun _ _ _ h => h) (Or.inl ⟨by rfl, ?_⟩) ?_ ?_
              rotate_left
              ·intro w'
               go_simp
               with_reducible rfl
              rotate_left
              ·simp only [Act.put, List.setIfInBounds_toArray, List.set_cons_zero, List.set_cons_succ, i64_w, i32_w]
               rfl
              refine done_ (by kernel_rfl) ?_
              try go_wp2
              go_roundg k3
              case measure => have := HK1.out; have := HJ40.out; have := HK3.out; omega
              case rel => exact ⟨(x16_3), (wrap64 (x17_3 + 1)), (by first | rfl | (simp; done) | (simp [*]; done)), (by first | rfl | (simp; done) | (simp [*]; done)), H', ⟨by have := HK1.out; have := HJ40.out; have := HK3.out; omega⟩, ⟨v_ HO_9⟩, ⟨b_ BK504⟩, ⟨b_ BK510⟩, ⟨b_ BK545⟩, ⟨hB_ w⟩⟩
             rw [if_neg c75] at H
             exact absurd H (by simp)
            rw [if_neg c74] at H
            have c74b0 : decide (x17_3 < (t512.length : Int)) = false := decide_eq_false c74
            clear c74
            by_cases c79 : t505 = true
            ·subst c79
             have H1 : (some (decide (x16_3 > x10_1))) = some r := by rw [if_pos rfl] at H; exact H
             clear H
             have H := H1
             clear H1
             obtain rfl := Option.some.inj H
             go_wp2
             go_ret
             exact ⟨by first | rfl | (simp [errW_none, errW_some] <;> rfl) | (simp [*, errW_none, errW_some] <;> rfl), hB_ w⟩
            replace c79 := Bool.eq_false_iff.mpr c79
            subst c79
            have H1 : (some false) = some r := by rw [if_neg (show ¬ (false = true) by decide)] at H; exact H
            clear H
            have H := H1
            clear H1
            obtain rfl := Option.some.inj H
            go_wp2
            go_ret
            exact ⟨by first | rfl | (simp [errW_none, errW_some] <;> rfl) | (simp [*, errW_none, errW_some] <;> rfl), hB_ w⟩
         replace c59 := Bool.eq_false_iff.mpr c59
         subst c59
         have H1 : (some t505) = some r := by rw [if_neg (show ¬ (false = true) by decide)] at H; exact H
         clear H
         have H := H1
         clear H1
         obtain rfl := Option.some.inj H
         try go_wp2
         go_ret
         exact ⟨by first | rfl | (simp [errW_none, errW_some] <;> rfl) | (simp [*, errW_none, errW_some] <;> rfl), hB_ w⟩
        rw [if_neg c57] at H
        exact absurd H (by simp)
       rw [if_neg c56] at H
       exact absurd H (by simp)
  replace c7 := Bool.eq_false_iff.mpr c7
  subst c7
  have H1 : (some t505) = some r := by rw [if_neg (show ¬ (false = true) by decide)] at H; exact H
  clear H
  have H := H1
  clear H1
  obtain rfl := Option.some.inj H
  go_enter Try.func5, Try.ntmps5
  go_wp2_with (first | ((with_reducible refine gate_dst (N := 2) rfl ?_); refine box_event ?hg (N := 2) ?hd (cs := #[.int .i64 a0_0, .int .i64 a0_1, .int .i64 a0_2]) (t := 23) ?hr ?_; (case hd => rfl); (case hg => rfl); (case hr => first | (go_simp; done) | (go_simp; rfl)); intro gb504 hg w94 hbox hb; replace HO1 := A_ (Kd.V_below (Kd.V_elderB (v_ HO1) gb504 (Nat.le_of_eq hg.symm)) hb); have BK504 := A_ hbox; have GW504 := A_ ((by rw [hg]; exact (below_size (hB_ w)) : w.heap.size ≤ gb504)); have GE504 := A_ ((by rw [hg]; exact (below_size (hB_ w)) : w.heap.size ≤ gb504)); replace HB := A_ (below_step (hB_ w) hb); clear hb hbox hg) | ((with_reducible refine gate_callee (f := 12) rfl ?_); refine goesL_ (some 18) rfl rfl Try.func12 (by kernel_rfl) rfl #[] rfl (by (try simp only [List.map_toArray, List.map_cons, List.map_nil]); first | done | rfl | (simp only [List.length_drop, List.length_take]; rfl)) ?_; (with_reducible refine (tallysticklaw19_shown.calls k  t505 _ A3.out).mono ?_); rintro e w95 ⟨rfl, hb⟩; refine ⟨_, rfl, ?_⟩; replace HO1 := A_ (Kd.V_below (v_ HO1) hb); replace BK504 := A_ (blk_below (g := gb504) (b_ BK504) hb); replace HB := A_ (below_step (hB_ w) hb); (try clear hb); (try clear hb2); (try clear hk); (try clear hi); obtain ⟨hcz96_0, hcz96_1, hcz96_2, hfz96_0, hfz96_1, hfz96_2⟩ := cf3_ BK504) | ((with_reducible refine gate_callee (f := 13) rfl ?_); refine goesL_ (some 21) rfl rfl Try.func13 (by kernel_rfl) rfl #[.agg #[.int .i64 a0_0, .int .i64 a0_1, .int .i64 a0_2], .slice A1 l1.length c1] rfl (by (try simp only [List.map_toArray, List.map_cons, List.map_nil]); first | done | rfl | (simp only [List.length_drop, List.length_take]; rfl)) ?_; (with_reducible refine (tallystickref19_Small.calls k a0_0 a0_1 a0_2 _ _ l1 true _ ?side1 ?side2 A4.out).mono ?_); (case side1 => repeat (first | exact (Kd.V_reads' HO1.out).2.2 | (with_reducible refine Kd.C_alloc ?_ _) | (with_reducible refine Kd.C_drewN ?_ _) | (with_reducible refine Kd.C_drew ?_))); (case side2 => exact (Kd.V_reads' HO1.out).2.1); rintro e w97 ⟨rfl, hb⟩; refine ⟨_, rfl, ?_⟩; replace HO1 := A_ (Kd.V_below (v_ HO1) hb); replace BK504 := A_ (blk_below (g := gb504) (b_ BK504) hb); replace HB := A_ (below_step (hB_ w) hb); (try clear hb); (try clear hb2); (try clear hk); (try clear hi); obtain ⟨hcz98_0, hcz98_1, hcz98_2, hfz98_0, hfz98_1, hfz98_2⟩ := cf3_ BK504) | ((with_reducible refine gate_callee (f := 17) rfl ?_); refine goesL_ (some 28) rfl rfl Try.func17 (by kernel_rfl) rfl #[.agg #[.int .i64 a0_0, .int .i64 a0_1, .int .i64 a0_2], .slice A1 l1.length c1] rfl (by (try simp only [List.map_toArray, List.map_cons, List.map_nil]); first | done | rfl | (simp only [List.length_drop, List.length_take]; rfl)) ?_; (with_reducible refine (plan_Missing.calls a0_0 a0_1 a0_2 _ _ l1 t507 t508 false _ ?side1 ?side2 A6.out).mono ?_); (case side1 => repeat (first | exact (Kd.V_reads' HO1.out).2.2 | (with_reducible refine Kd.C_alloc ?_ _) | (with_reducible refine Kd.C_drewN ?_ _) | (with_reducible refine Kd.C_drew ?_))); (case side2 => exact (Kd.V_reads' HO1.out).2.1); rintro e w99 ⟨rfl, hb⟩; refine ⟨_, rfl, ?_⟩; replace HO1 := A_ (Kd.V_below (v_ HO1) hb); replace BK504 := A_ (blk_below (g := gb504) (b_ BK504) hb); replace HB := A_ (below_step (hB_ w) hb); (try clear hb); (try clear hb2); (try clear hk); (try clear hi)) | ((with_reducible refine gate_dst (N := 7) rfl ?_); refine box_event ?hg (N := 7) ?hd (cs := #[.int .i64 0, .int .i64 0]) (t := 29) ?hr ?_; (case hd => rfl); (case hg => rfl); (case hr => first | (go_simp; done) | (go_simp; rfl)); intro gb510 hg w100 hbox hb; replace HO1 := A_ (Kd.V_below (Kd.V_elderB (v_ HO1) gb510 (Nat.le_of_eq hg.symm)) hb); have BK510 := A_ hbox; have GW510 := A_ ((by rw [hg]; exact (below_size (hB_ w)) : w.heap.size ≤ gb510)); have GE510 := A_ ((by rw [hg]; exact (below_size (hB_ w)) : w.heap.size ≤ gb510)); replace HB := A_ (below_step (hB_ w) hb); have NB504_510 := A_ ((by rw [hg]; exact Nat.ne_of_lt (blk_lt (g := gb504) (b_ BK504)) : gb504 ≠ gb510)); have NB510_504 := A_ ((by rw [hg]; exact Nat.ne_of_gt (blk_lt (g := gb504) (b_ BK504)) : gb510 ≠ gb504)); replace BK504 := A_ (blk_below (g := gb504) (b_ BK504) hb); clear hb hbox hg; have hnb101 := NB510_504.out; have hnc101 := NB504_510.out; obtain ⟨hcz102_0, hcz102_1, hfz102_0, hfz102_1⟩ := cf2_ BK510))
  go_ret
  exact ⟨by first | rfl | (simp [errW_none, errW_some] <;> rfl) | (simp [*, errW_none, errW_some] <;> rfl), hB_ w⟩
 replace c5 := Bool.eq_false_iff.mpr c5
 subst c5
 have H1 : (some t505) = some r := by rw [if_neg (show ¬ (false = true) by decide)] at H; exact H
 clear H
 have H := H1
 clear H1
 obtain rfl := Option.some.inj H
 go_enter Try.func5, Try.ntmps5
 go_wp2_with (first | ((with_reducible refine gate_dst (N := 2) rfl ?_); refine box_event ?hg (N := 2) ?hd (cs := #[.int .i64 a0_0, .int .i64 a0_1, .int .i64 a0_2]) (t := 23) ?hr ?_; (case hd => rfl); (case hg => rfl); (case hr => first | (go_simp; done) | (go_simp; rfl)); intro gb504 hg w103 hbox hb; replace HO1 := A_ (Kd.V_below (Kd.V_elderB (v_ HO1) gb504 (Nat.le_of_eq hg.symm)) hb); have BK504 := A_ hbox; have GW504 := A_ ((by rw [hg]; exact (below_size (hB_ w)) : w.heap.size ≤ gb504)); have GE504 := A_ ((by rw [hg]; exact (below_size (hB_ w)) : w.heap.size ≤ gb504)); replace HB := A_ (below_step (hB_ w) hb); clear hb hbox hg) | ((with_reducible refine gate_callee (f := 12) rfl ?_); refine goesL_ (some 18) rfl rfl Try.func12 (by kernel_rfl) rfl #[] rfl (by (try simp only [List.map_toArray, List.map_cons, List.map_nil]); first | done | rfl | (simp only [List.length_drop, List.length_take]; rfl)) ?_; (with_reducible refine (tallysticklaw19_shown.calls k  t505 _ A3.out).mono ?_); rintro e w104 ⟨rfl, hb⟩; refine ⟨_, rfl, ?_⟩; replace HO1 := A_ (Kd.V_below (v_ HO1) hb); replace BK504 := A_ (blk_below (g := gb504) (b_ BK504) hb); replace HB := A_ (below_step (hB_ w) hb); (try clear hb); (try clear hb2); (try clear hk); (try clear hi); obtain ⟨hcz105_0, hcz105_1, hcz105_2, hfz105_0, hfz105_1, hfz105_2⟩ := cf3_ BK504) | ((with_reducible refine gate_callee (f := 13) rfl ?_); refine goesL_ (some 21) rfl rfl Try.func13 (by kernel_rfl) rfl #[.agg #[.int .i64 a0_0, .int .i64 a0_1, .int .i64 a0_2], .slice A1 l1.length c1] rfl (by (try simp only [List.map_toArray, List.map_cons, List.map_nil]); first | done | rfl | (simp only [List.length_drop, List.length_take]; rfl)) ?_; (with_reducible refine (tallystickref19_Small.calls k a0_0 a0_1 a0_2 _ _ l1 false _ ?side1 ?side2 A4.out).mono ?_); (case side1 => repeat (first | exact (Kd.V_reads' HO1.out).2.2 | (with_reducible refine Kd.C_alloc ?_ _) | (with_reducible refine Kd.C_drewN ?_ _) | (with_reducible refine Kd.C_drew ?_))); (case side2 => exact (Kd.V_reads' HO1.out).2.1); rintro e w106 ⟨rfl, hb⟩; refine ⟨_, rfl, ?_⟩; replace HO1 := A_ (Kd.V_below (v_ HO1) hb); replace BK504 := A_ (blk_below (g := gb504) (b_ BK504) hb); replace HB := A_ (below_step (hB_ w) hb); (try clear hb); (try clear hb2); (try clear hk); (try clear hi)))
 go_ret
 exact ⟨by first | rfl | (simp [errW_none, errW_some] <;> rfl) | (simp [*, errW_none, errW_some] <;> rfl), hB_ w⟩

end Go.Proofs.Ytbpobnlkfpjijaa.Pr
end
