-- Laid by a program (wip/merge.py): texts of this claim, one behind the other.
import Derived.Test.YtbpobnlkfpjijaaX2
import Derived.WalkMore
import Derived.Carry
import Derived.WideMake
import Derived.ChangeMaps5
import Derived.Maps.Own
import Derived.Maps.OwnOps
import Derived.Laws.Cover1
import Derived.Lib.Hide
-- Pr33
section
namespace Go.Proofs.Ytbpobnlkfpjijaa.Pr
open Go.RowKit Go.Proofs.YtbpobnlkfpjijaaW.PrintWords Go.Proofs.YtbpobnlkfpjijaaW.PrintLast Go.Proofs.YtbpobnlkfpjijaaW.PrintMore
attribute [local go_sem] max2_int min2_int max_two min_two max_three min_three max_four min_four   -- for this text's walks alone
set_option linter.unusedVariables false
set_option linter.unusedSimpArgs false

attribute [local go_sem] Go.Proofs.Aid.cell_set_row
def tallystickref17_May.l0 : Nat → Int → Int → Int → List Int → List Int → List Int → Bool → Option (Bool)
 | 0, _, _, _, _, _, _, _ => none
 | k + 1, x3, x226000, x226001, x226002, x226003, x226004, x226005 => if x3 < 3 then ((some (([x226002, x226003, x226004] : List (List Int)) : List (List Int))).bind fun y226 => (if 0 ≤ x3 then (if x3 < (y226.length : Int) then (if ((rd_L1 y226 x3).length : Int) > 60 then (some false) else (if ((rd_L1 y226 x3).length : Int) > 0 then (if 0 ≤ (wrap64 (((rd_L1 y226 x3).length : Int) - 1)) then (if (wrap64 (((rd_L1 y226 x3).length : Int) - 1)) < ((rd_L1 y226 x3).length : Int) then (if (rd (rd_L1 y226 x3) (wrap64 (((rd_L1 y226 x3).length : Int) - 1))) = 0 then (some false) else (tallystickref17_May.l0 k (wrap64 (x3 + 1)) x226000 x226001 x226002 x226003 x226004 x226005)) else (none)) else (none)) else (tallystickref17_May.l0 k (wrap64 (x3 + 1)) x226000 x226001 x226002 x226003 x226004 x226005))) else (none)) else (none))) else (some true)
def tallystickref17_May.f (k : Nat) (a0_0 : Int) (a0_1 : Int) (l0_2 : List Int) (l0_3 : List Int) (l0_4 : List Int) (a0_5 : Bool) : Option (Bool) := tallystickref17_May.l0 k 0 a0_0 a0_1 l0_2 l0_3 l0_4 a0_5
theorem tallystickref17_May.mono_l : ∀ k, (∀ y0 y1 y2 y3 y4 y5 y6, LeO (tallystickref17_May.l0 k y0 y1 y2 y3 y4 y5 y6) (tallystickref17_May.l0 (k + 1) y0 y1 y2 y3 y4 y5 y6))
 | 0 => fun _ _ _ _ _ _ _ r h => by simp [tallystickref17_May.l0] at h
 | k + 1 => by
  have ih0 := tallystickref17_May.mono_l k
  intro y0 y1 y2 y3 y4 y5 y6
  unfold tallystickref17_May.l0
  repeat' first
  | (with_reducible exact ih0 _ _ _ _ _ _ _)
  | (with_reducible exact LeO.refl _)
  | (with_reducible exact LeO.none _)
  | (with_reducible refine LeO.ite ?_ ?_)
  | (with_reducible refine LeO.bind ?_ (fun _ => ?_))
  | exact ih0 _ _ _ _ _ _ _
  | exact LeO.none _
  | refine LeO.ite ?_ ?_
  | refine LeO.bind ?_ (fun _ => ?_)
theorem tallystickref17_May.mono : ∀ a0 a1 a2 a3 a4 a5 k, LeO (tallystickref17_May.f k a0 a1 a2 a3 a4 a5) (tallystickref17_May.f (k + 1) a0 a1 a2 a3 a4 a5) := by
 intro a0 a1 a2 a3 a4 a5 k
 have ih0 := tallystickref17_May.mono_l k
 unfold tallystickref17_May.f
 repeat' first
   | (with_reducible exact ih0 _ _ _ _ _ _ _)
   | (with_reducible exact LeO.refl _)
   | (with_reducible exact LeO.none _)
   | (with_reducible refine LeO.ite ?_ ?_)
   | (with_reducible refine LeO.bind ?_ (fun _ => ?_))
   | exact ih0 _ _ _ _ _ _ _
   | exact LeO.none _
   | refine LeO.ite ?_ ?_
   | refine LeO.bind ?_ (fun _ => ?_)
set_option maxHeartbeats 8000000 in
set_option maxRecDepth 100000 in
theorem tallystickref17_May.calls (k : Nat) (a0_0 : Int) (a0_1 : Int) (P0_2_ : Nat → Prop) (A0_2 : Option Addr) (c0_2 : Nat) (l0_2 : List Int) (P0_3_ : Nat → Prop) (A0_3 : Option Addr) (c0_3 : Nat) (l0_3 : List Int) (P0_4_ : Nat → Prop) (A0_4 : Option Addr) (c0_4 : Nat) (l0_4 : List Int) (a0_5 : Bool) (r : Bool) (w : World) (hs0_2 : Kd.V (Kd.int .u64) 57 w w.heap.size (fun k_ => P0_2_ k_) (.slice A0_2 l0_2.length c0_2) l0_2) (hs0_3 : Kd.V (Kd.int .u64) 57 w w.heap.size (fun k_ => P0_3_ k_) (.slice A0_3 l0_3.length c0_3) l0_3) (hs0_4 : Kd.V (Kd.int .u64) 57 w w.heap.size (fun k_ => P0_4_ k_) (.slice A0_4 l0_4.length c0_4) l0_4) (h : tallystickref17_May.f k a0_0 a0_1 l0_2 l0_3 l0_4 a0_5 = some r) :
  Calls Try.prog 35 #[.agg #[.int .i64 a0_0, .int .i64 a0_1, .slice A0_2 l0_2.length c0_2, .slice A0_3 l0_3.length c0_3, .slice A0_4 l0_4.length c0_4, .bool a0_5]] w fun e w' => e = .returned (.bool r) ∧ Below w.heap.size w w' := by
 have hu41 := Try.underlying41
 have HO0_2 := A_ (show Kd.V (Kd.int .u64) 57 w w.heap.size (fun k_ => ((P0_2_ k_ ∨ P0_3_ k_ ∨ P0_4_ k_) ∨ w.heap.size ≤ k_)) (.slice A0_2 l0_2.length c0_2) l0_2 from Kd.V_mono hs0_2 (fun k_ hk => .inl (.inl hk))); have HO0_3 := A_ (show Kd.V (Kd.int .u64) 57 w w.heap.size (fun k_ => ((P0_2_ k_ ∨ P0_3_ k_ ∨ P0_4_ k_) ∨ w.heap.size ≤ k_)) (.slice A0_3 l0_3.length c0_3) l0_3 from Kd.V_mono hs0_3 (fun k_ hk => .inl (.inr (.inl hk)))); have HO0_4 := A_ (show Kd.V (Kd.int .u64) 57 w w.heap.size (fun k_ => ((P0_2_ k_ ∨ P0_3_ k_ ∨ P0_4_ k_) ∨ w.heap.size ≤ k_)) (.slice A0_4 l0_4.length c0_4) l0_4 from Kd.V_mono hs0_4 (fun k_ hk => .inl (.inr (.inr hk)))); have HB := A_ (Below.refl w.heap.size w)
 have H : (tallystickref17_May.l0 k 0 a0_0 a0_1 l0_2 l0_3 l0_4 a0_5) = some r := h
 clear h
 have H' := A_ H
 clear H
 go_enter Try.func35, Try.ntmps35
 go_wp2_with (first | ((with_reducible refine gate_dst (N := 1) rfl ?_); (try (refine gate_guard (by rfl) ?_; dsimp only)); refine box_event ?hg (N := 1) ?hd (cs := #[.int .i64 a0_0, .int .i64 a0_1, .slice A0_2 l0_2.length c0_2, .slice A0_3 l0_3.length c0_3, .slice A0_4 l0_4.length c0_4, .bool a0_5]) (t := 41) ?hr ?_; (case hd => rfl); (case hg => rfl); (case hr => first | (go_simp; done) | (go_simp; rfl)); intro gb225 hg w2 hbox hb; replace HO0_2 := A_ (Kd.V_below (Kd.V_elderB (v_ HO0_2) gb225 (Nat.le_of_eq hg.symm)) hb); replace HO0_3 := A_ (Kd.V_below (Kd.V_elderB (v_ HO0_3) gb225 (Nat.le_of_eq hg.symm)) hb); replace HO0_4 := A_ (Kd.V_below (Kd.V_elderB (v_ HO0_4) gb225 (Nat.le_of_eq hg.symm)) hb); have BK225 := A_ hbox; have GW225 := A_ ((by rw [hg]; exact (below_size (hB_ w)) : w.heap.size ≤ gb225)); have GE225 := A_ ((by rw [hg]; exact (below_size (hB_ w)) : w.heap.size ≤ gb225)); replace HB := A_ (below_step (hB_ w) hb); clear hb hbox hg))
 go_loopg [3] k (fun kq v3 w' => ∃ (x3_1 : Int), v3 = .int .i64 x3_1 ∧ AsC (tallystickref17_May.l0 kq x3_1 a0_0 a0_1 l0_2 l0_3 l0_4 a0_5 = some r) ∧ AsC (kq ≤ k) ∧ AsC (Kd.V (Kd.int .u64) 57 w' w.heap.size (fun k_ => ((P0_2_ k_ ∨ P0_3_ k_ ∨ P0_4_ k_) ∨ w.heap.size ≤ k_) ∧ k_ ≠ gb225) (.slice A0_2 l0_2.length c0_2) l0_2) ∧ AsC (Kd.V (Kd.int .u64) 57 w' w.heap.size (fun k_ => ((P0_2_ k_ ∨ P0_3_ k_ ∨ P0_4_ k_) ∨ w.heap.size ≤ k_) ∧ k_ ≠ gb225) (.slice A0_3 l0_3.length c0_3) l0_3) ∧ AsC (Kd.V (Kd.int .u64) 57 w' w.heap.size (fun k_ => ((P0_2_ k_ ∨ P0_3_ k_ ∨ P0_4_ k_) ∨ w.heap.size ≤ k_) ∧ k_ ≠ gb225) (.slice A0_4 l0_4.length c0_4) l0_4) ∧ AsC (w'.heap[gb225]? = some (.cells #[.int .i64 a0_0, .int .i64 a0_1, (.slice A0_2 l0_2.length c0_2), (.slice A0_3 l0_3.length c0_3), (.slice A0_4 l0_4.length c0_4), .bool a0_5] 41 (0, 0))) ∧ AsC (Below w.heap.size w w'))
 case atStart => exact ⟨(0), (by first | rfl | (simp; done) | (simp [*]; done)), H', ⟨Nat.le_refl _⟩, ⟨v_ HO0_2⟩, ⟨v_ HO0_3⟩, ⟨v_ HO0_4⟩, ⟨b_ BK225⟩, ⟨hB_ w⟩⟩
 case round =>
  clear H'; try clear p2
  obtain ⟨x3_1, rfl, HA, HK1, HO_226002, HO_226003, HO_226004, BK225, HB⟩ := hrel
  cases gk with
  | zero => exact absurd HA.out (by simp [tallystickref17_May.l0])
  | succ k1 =>
   have H := HA.out; clear HA
   simp only [tallystickref17_May.l0] at H
   by_cases c3 : x3_1 < 3
   ·rw [if_pos c3] at H
    have c3b0 : decide (x3_1 < 3) = true := decide_eq_true c3
    clear c3
    obtain ⟨y226, hy226⟩ : ∃ y_ : List (List Int), y_ = (([l0_2, l0_3, l0_4] : List (List Int))) := ⟨_, rfl⟩
    replace H : (if 0 ≤ x3_1 then (if x3_1 < (y226.length : Int) then (if ((rd_L1 y226 x3_1).length : Int) > 60 then (some false) else (if ((rd_L1 y226 x3_1).length : Int) > 0 then (if 0 ≤ (wrap64 (((rd_L1 y226 x3_1).length : Int) - 1)) then (if (wrap64 (((rd_L1 y226 x3_1).length : Int) - 1)) < ((rd_L1 y226 x3_1).length : Int) then (if (rd (rd_L1 y226 x3_1) (wrap64 (((rd_L1 y226 x3_1).length : Int) - 1))) = 0 then (some false) else (tallystickref17_May.l0 k1 (wrap64 (x3_1 + 1)) a0_0 a0_1 l0_2 l0_3 l0_4 a0_5)) else (none)) else (none)) else (tallystickref17_May.l0 k1 (wrap64 (x3_1 + 1)) a0_0 a0_1 l0_2 l0_3 l0_4 a0_5))) else (none)) else (none)) = some r := by first | (rw [hy226]; with_reducible exact H) | (have H2_ := (Option.bind_some _ _).symm.trans H; rw [hy226]; with_reducible exact H2_) | (have H2_ := (Option.bind_some _ _).symm.trans H; with_reducible exact H2_) | with_reducible exact H | (rw [hy226]; exact H) | exact H
    have Ny226 := A_ hy226; clear hy226
    by_cases c4 : 0 ≤ x3_1
    ·rw [if_pos c4] at H
     have c4b0 : decide (0 ≤ x3_1) = true := decide_eq_true c4
     clear c4
     by_cases c5 : x3_1 < (y226.length : Int)
     ·rw [if_pos c5] at H
      have c5b0 : decide (x3_1 < (y226.length : Int)) = true := decide_eq_true c5
      clear c5
      by_cases c6 : ((rd_L1 y226 x3_1).length : Int) > 60
      ·rw [if_pos c6] at H
       have c6b0 : decide (60 < ((rd_L1 y226 x3_1).length : Int)) = true := decide_eq_true c6
       have c6b1 : decide (60 < (rd_L1 y226 x3_1).length) = true := decide_eq_true (by omega)
       clear c6
       obtain rfl := Option.some.inj H
       obtain ⟨hcz7_0, hcz7_1, hcz7_2, hcz7_3, hcz7_4, hcz7_5, hfz7_0, hfz7_1, hfz7_2, hfz7_3, hfz7_4, hfz7_5⟩ := cf6_ BK225
       go_wp2_with (first | ((with_reducible refine gate_dst (N := 15) rfl ?_); (try (refine gate_guard (by rfl) ?_; dsimp only)); refine Kd.N_lit (Kd.slice 57 (Kd.int .u64)) _ 39 ?hg (N' := 15) ?hd (xs := ([l0_2, l0_3, l0_4] : List (List Int))) (inner := [.slice A0_2 l0_2.length c0_2, .slice A0_3 l0_3.length c0_3, .slice A0_4 l0_4.length c0_4]) (ok := (fun k_ => ((P0_2_ k_ ∨ P0_3_ k_ ∨ P0_4_ k_) ∨ w.heap.size ≤ k_) ∧ k_ ≠ gb225)) (okp := (fun k_ => ((P0_2_ k_ ∨ P0_3_ k_ ∨ P0_4_ k_) ∨ w.heap.size ≤ k_) ∧ k_ ≠ gb225)) ?hr ?hp (fun _ hk => hk) ((show ∀ k_, wr.heap.size ≤ k_ → (fun k_ => ((P0_2_ k_ ∨ P0_3_ k_ ∨ P0_4_ k_) ∨ w.heap.size ≤ k_) ∧ k_ ≠ gb225) k_ from fun k_ hk => ⟨(.inr (Nat.le_trans (below_size (hB_ w)) hk)), Kd.freshB (g := gb225) (b_ BK225) k_ hk⟩) _ (Nat.le_refl _)) (Below.refl _ _) (Nat.le_refl _) (by simp) ?_; (case hd => rfl); (case hg => rfl); (case hr => first | (go_simp; done) | (go_simp; rfl)); (case hp => exact (Reps.one (show Kd.FK (Kd.slice 57 (Kd.int .u64)) _ _ l0_2 [.slice A0_2 l0_2.length c0_2] from (Kd.FK_slice_mk (Kd.V_reads' (Kd.V_mono (ok' := (fun k_ => ((P0_2_ k_ ∨ P0_3_ k_ ∨ P0_4_ k_) ∨ w.heap.size ≤ k_) ∧ k_ ≠ gb225)) (HO_226002.out) (fun k_ hk => ⟨hk.1, hk.2⟩))).2.1 (Kd.V_F (Kd.V_mono (ok' := (fun k_ => ((P0_2_ k_ ∨ P0_3_ k_ ∨ P0_4_ k_) ∨ w.heap.size ≤ k_) ∧ k_ ≠ gb225)) (HO_226002.out) (fun k_ hk => ⟨hk.1, hk.2⟩))))) (Reps.one (show Kd.FK (Kd.slice 57 (Kd.int .u64)) _ _ l0_3 [.slice A0_3 l0_3.length c0_3] from (Kd.FK_slice_mk (Kd.V_reads' (Kd.V_mono (ok' := (fun k_ => ((P0_2_ k_ ∨ P0_3_ k_ ∨ P0_4_ k_) ∨ w.heap.size ≤ k_) ∧ k_ ≠ gb225)) (HO_226003.out) (fun k_ hk => ⟨hk.1, hk.2⟩))).2.1 (Kd.V_F (Kd.V_mono (ok' := (fun k_ => ((P0_2_ k_ ∨ P0_3_ k_ ∨ P0_4_ k_) ∨ w.heap.size ≤ k_) ∧ k_ ≠ gb225)) (HO_226003.out) (fun k_ hk => ⟨hk.1, hk.2⟩))))) (Reps.one (show Kd.FK (Kd.slice 57 (Kd.int .u64)) _ _ l0_4 [.slice A0_4 l0_4.length c0_4] from (Kd.FK_slice_mk (Kd.V_reads' (Kd.V_mono (ok' := (fun k_ => ((P0_2_ k_ ∨ P0_3_ k_ ∨ P0_4_ k_) ∨ w.heap.size ≤ k_) ∧ k_ ≠ gb225)) (HO_226004.out) (fun k_ hk => ⟨hk.1, hk.2⟩))).2.1 (Kd.V_F (Kd.V_mono (ok' := (fun k_ => ((P0_2_ k_ ∨ P0_3_ k_ ∨ P0_4_ k_) ∨ w.heap.size ≤ k_) ∧ k_ ≠ gb225)) (HO_226004.out) (fun k_ hk => ⟨hk.1, hk.2⟩))))) (Reps.none _ _))))); intro v227 w8 ho9 hb hg_ hnew_; clear hg_ hnew_; (first | rw [← Ny226.out] at ho9 | (simp only [Int.reduceToNat] at ho9; rw [← Ny226.out] at ho9)); replace HO_226002 := A_ (Kd.V_elder' (v_ HO_226002) (Kd.N_base ho9) hb); replace HO_226003 := A_ (Kd.V_elder' (v_ HO_226003) (Kd.N_base ho9) hb); replace HO_226004 := A_ (Kd.V_elder' (v_ HO_226004) (Kd.N_base ho9) hb); have HO228 := A_ (Kd.N_lower ho9 (below_size (hB_ w))); replace BK225 := A_ (blk_below (g := gb225) (b_ BK225) hb); replace HB := A_ (below_step (hB_ w) hb); clear hb ho9; obtain ⟨Ao10, co10, eo10⟩ := Kd.N_slice HO228.out; subst eo10; have p229 : 0 ≤ (x3_1 : Int) := of_decide_eq_true (by first | (with_reducible assumption) | assumption); have q229 : x3_1 < (y226.length : Int) := of_decide_eq_true (by first | (with_reducible assumption) | assumption); obtain ⟨ad229, A229_0, c229_0, e229, hx229_0, hl229_0, hi229_0⟩ := at_L1 (Kd.N_reads' HO228.out).2.2 x3_1 p229 q229; cases e229; obtain ⟨ce229, hce229, hMe229, hcc229⟩ := Kd.N_get HO228.out [] x3_1 p229 (by first | exact q229 | exact of_decide_eq_true (by first | (with_reducible assumption) | assumption) | (have e_ := (Kd.N_reads' HO228.out).1; omega)); obtain ⟨ua229_0, uc229_0, rfl, ul229_0, ge229_0⟩ := Kd.FK_slice_open hMe229; have hv229_0 := hcc229 0 _ rfl; rw [Nat.add_zero, show ((Kd.slice 57 (Kd.int .u64))).sz = 1 from rfl, Nat.mul_one] at hv229_0; replace hv229_0 := Option.some.inj (hv229_0.symm.trans hx229_0); injection hv229_0 with hva_ hvn_ hvc_; rw [hva_] at ge229_0; rw [hvc_] at ul229_0; have HL229_0 := A_ (show Kd.V (Kd.int .u64) 57 _ w.heap.size _ _ (rd_L1 y226 x3_1) from Kd.V_mk ul229_0 ge229_0); clear hva_ hvn_ hvc_ ge229_0 ul229_0; clear hcc229 hce229; have HR229_0 := A_ hi229_0; have HC229_0 := A_ hl229_0; clear hi229_0 hl229_0; replace p229 := eq_true p229; replace q229 := eq_true q229))
       go_ret
       exact ⟨by first | rfl | (simp [errW_none, errW_some] <;> rfl) | (simp [*, errW_none, errW_some] <;> rfl), hB_ w⟩
      rw [if_neg c6] at H
      have c6b0 : decide (60 < ((rd_L1 y226 x3_1).length : Int)) = false := decide_eq_false c6
      have c6b1 : decide (60 < (rd_L1 y226 x3_1).length) = false := decide_eq_false (by omega)
      clear c6
      by_cases c11 : ((rd_L1 y226 x3_1).length : Int) > 0
      ·rw [if_pos c11] at H
       have c11b0 : decide (0 < ((rd_L1 y226 x3_1).length : Int)) = true := decide_eq_true c11
       have c11b1 : decide (0 < (rd_L1 y226 x3_1).length) = true := decide_eq_true (by omega)
       clear c11
       obtain ⟨ji12, hji12⟩ : ∃ j_ : Int, (wrap64 (((rd_L1 y226 x3_1).length : Int) - 1)) = j_ := ⟨_, rfl⟩
       replace H : (if 0 ≤ (ji12) then (if (ji12) < ((rd_L1 y226 x3_1).length : Int) then (if (rd (rd_L1 y226 x3_1) (ji12)) = 0 then (some false) else (tallystickref17_May.l0 k1 (wrap64 (x3_1 + 1)) a0_0 a0_1 l0_2 l0_3 l0_4 a0_5)) else (none)) else (none)) = some r := by first | (rw [hji12] at H; exact H) | (simp only [hji12] at H ⊢; exact H)
       have hji12w : (IntKind.i64.wrap (((rd_L1 y226 x3_1).length : Int) - 1)) = ji12 := (i64_w _).trans hji12
       by_cases c13 : 0 ≤ (ji12)
       ·rw [if_pos c13] at H
        have c13b0 : decide (0 ≤ (ji12)) = true := decide_eq_true c13
        clear c13
        by_cases c14 : (ji12) < ((rd_L1 y226 x3_1).length : Int)
        ·rw [if_pos c14] at H
         have c14b0 : decide ((ji12) < ((rd_L1 y226 x3_1).length : Int)) = true := decide_eq_true c14
         clear c14
         by_cases c15 : (rd (rd_L1 y226 x3_1) (ji12)) = 0
         ·rw [if_pos c15] at H
          have c15b0 : ((rd (rd_L1 y226 x3_1) (ji12)) == 0) = true := beq_iff_eq.mpr c15
          have c15b1 : ((rd (rd_L1 y226 x3_1) (ji12)) != 0) = false := bne_eq_false_iff_eq.mpr c15
          clear c15
          obtain rfl := Option.some.inj H
          obtain ⟨hcz16_0, hcz16_1, hcz16_2, hcz16_3, hcz16_4, hcz16_5, hfz16_0, hfz16_1, hfz16_2, hfz16_3, hfz16_4, hfz16_5⟩ := cf6_ BK225
          go_wp2_with (first | ((with_reducible refine gate_dst (N := 15) rfl ?_); (try (refine gate_guard (by rfl) ?_; dsimp only)); refine Kd.N_lit (Kd.slice 57 (Kd.int .u64)) _ 39 ?hg (N' := 15) ?hd (xs := ([l0_2, l0_3, l0_4] : List (List Int))) (inner := [.slice A0_2 l0_2.length c0_2, .slice A0_3 l0_3.length c0_3, .slice A0_4 l0_4.length c0_4]) (ok := (fun k_ => ((P0_2_ k_ ∨ P0_3_ k_ ∨ P0_4_ k_) ∨ w.heap.size ≤ k_) ∧ k_ ≠ gb225)) (okp := (fun k_ => ((P0_2_ k_ ∨ P0_3_ k_ ∨ P0_4_ k_) ∨ w.heap.size ≤ k_) ∧ k_ ≠ gb225)) ?hr ?hp (fun _ hk => hk) ((show ∀ k_, wr.heap.size ≤ k_ → (fun k_ => ((P0_2_ k_ ∨ P0_3_ k_ ∨ P0_4_ k_) ∨ w.heap.size ≤ k_) ∧ k_ ≠ gb225) k_ from fun k_ hk => ⟨(.inr (Nat.le_trans (below_size (hB_ w)) hk)), Kd.freshB (g := gb225) (b_ BK225) k_ hk⟩) _ (Nat.le_refl _)) (Below.refl _ _) (Nat.le_refl _) (by simp) ?_; (case hd => rfl); (case hg => rfl); (case hr => first | (go_simp; done) | (go_simp; rfl)); (case hp => exact (Reps.one (show Kd.FK (Kd.slice 57 (Kd.int .u64)) _ _ l0_2 [.slice A0_2 l0_2.length c0_2] from (Kd.FK_slice_mk (Kd.V_reads' (Kd.V_mono (ok' := (fun k_ => ((P0_2_ k_ ∨ P0_3_ k_ ∨ P0_4_ k_) ∨ w.heap.size ≤ k_) ∧ k_ ≠ gb225)) (HO_226002.out) (fun k_ hk => ⟨hk.1, hk.2⟩))).2.1 (Kd.V_F (Kd.V_mono (ok' := (fun k_ => ((P0_2_ k_ ∨ P0_3_ k_ ∨ P0_4_ k_) ∨ w.heap.size ≤ k_) ∧ k_ ≠ gb225)) (HO_226002.out) (fun k_ hk => ⟨hk.1, hk.2⟩))))) (Reps.one (show Kd.FK (Kd.slice 57 (Kd.int .u64)) _ _ l0_3 [.slice A0_3 l0_3.length c0_3] from (Kd.FK_slice_mk (Kd.V_reads' (Kd.V_mono (ok' := (fun k_ => ((P0_2_ k_ ∨ P0_3_ k_ ∨ P0_4_ k_) ∨ w.heap.size ≤ k_) ∧ k_ ≠ gb225)) (HO_226003.out) (fun k_ hk => ⟨hk.1, hk.2⟩))).2.1 (Kd.V_F (Kd.V_mono (ok' := (fun k_ => ((P0_2_ k_ ∨ P0_3_ k_ ∨ P0_4_ k_) ∨ w.heap.size ≤ k_) ∧ k_ ≠ gb225)) (HO_226003.out) (fun k_ hk => ⟨hk.1, hk.2⟩))))) (Reps.one (show Kd.FK (Kd.slice 57 (Kd.int .u64)) _ _ l0_4 [.slice A0_4 l0_4.length c0_4] from (Kd.FK_slice_mk (Kd.V_reads' (Kd.V_mono (ok' := (fun k_ => ((P0_2_ k_ ∨ P0_3_ k_ ∨ P0_4_ k_) ∨ w.heap.size ≤ k_) ∧ k_ ≠ gb225)) (HO_226004.out) (fun k_ hk => ⟨hk.1, hk.2⟩))).2.1 (Kd.V_F (Kd.V_mono (ok' := (fun k_ => ((P0_2_ k_ ∨ P0_3_ k_ ∨ P0_4_ k_) ∨ w.heap.size ≤ k_) ∧ k_ ≠ gb225)) (HO_226004.out) (fun k_ hk => ⟨hk.1, hk.2⟩))))) (Reps.none _ _))))); intro v227 w17 ho18 hb hg_ hnew_; clear hg_ hnew_; (first | rw [← Ny226.out] at ho18 | (simp only [Int.reduceToNat] at ho18; rw [← Ny226.out] at ho18)); replace HO_226002 := A_ (Kd.V_elder' (v_ HO_226002) (Kd.N_base ho18) hb); replace HO_226003 := A_ (Kd.V_elder' (v_ HO_226003) (Kd.N_base ho18) hb); replace HO_226004 := A_ (Kd.V_elder' (v_ HO_226004) (Kd.N_base ho18) hb); have HO228 := A_ (Kd.N_lower ho18 (below_size (hB_ w))); replace BK225 := A_ (blk_below (g := gb225) (b_ BK225) hb); replace HB := A_ (below_step (hB_ w) hb); clear hb ho18; obtain ⟨Ao19, co19, eo19⟩ := Kd.N_slice HO228.out; subst eo19; have p229 : 0 ≤ (x3_1 : Int) := of_decide_eq_true (by first | (with_reducible assumption) | assumption); have q229 : x3_1 < (y226.length : Int) := of_decide_eq_true (by first | (with_reducible assumption) | assumption); obtain ⟨ad229, A229_0, c229_0, e229, hx229_0, hl229_0, hi229_0⟩ := at_L1 (Kd.N_reads' HO228.out).2.2 x3_1 p229 q229; cases e229; obtain ⟨ce229, hce229, hMe229, hcc229⟩ := Kd.N_get HO228.out [] x3_1 p229 (by first | exact q229 | exact of_decide_eq_true (by first | (with_reducible assumption) | assumption) | (have e_ := (Kd.N_reads' HO228.out).1; omega)); obtain ⟨ua229_0, uc229_0, rfl, ul229_0, ge229_0⟩ := Kd.FK_slice_open hMe229; have hv229_0 := hcc229 0 _ rfl; rw [Nat.add_zero, show ((Kd.slice 57 (Kd.int .u64))).sz = 1 from rfl, Nat.mul_one] at hv229_0; replace hv229_0 := Option.some.inj (hv229_0.symm.trans hx229_0); injection hv229_0 with hva_ hvn_ hvc_; rw [hva_] at ge229_0; rw [hvc_] at ul229_0; have HL229_0 := A_ (show Kd.V (Kd.int .u64) 57 _ w.heap.size _ _ (rd_L1 y226 x3_1) from Kd.V_mk ul229_0 ge229_0); clear hva_ hvn_ hvc_ ge229_0 ul229_0; clear hcc229 hce229; have HR229_0 := A_ hi229_0; have HC229_0 := A_ hl229_0; clear hi229_0 hl229_0; replace p229 := eq_true p229; replace q229 := eq_true q229; have p230 : 0 ≤ ((ji12) : Int) := of_decide_eq_true (by first | (with_reducible assumption) | assumption); have q230 : (ji12) < ((rd_L1 y226 x3_1).length : Int) := of_decide_eq_true (by first | (with_reducible assumption) | assumption); obtain ⟨ad230, e230, hx230_0⟩ := Kd.at_int (by repeat (first | (with_reducible exact HR229_0.out) | (with_reducible refine Kd.C_alloc ?_ _) | (with_reducible refine Kd.C_drewN ?_ _) | (with_reducible refine Kd.C_drew ?_) | exact HR229_0.out)) (ji12) p230 q230; cases e230; replace p230 := eq_true p230; replace q230 := eq_true q230))
          go_ret
          exact ⟨by first | rfl | (simp [errW_none, errW_some] <;> rfl) | (simp only [← hji12]; first | rfl | (simp [errW_none, errW_some] <;> rfl)) | (simp [*, errW_none, errW_some] <;> rfl), hB_ w⟩
         rw [if_neg c15] at H
         have c15b0 : ((rd (rd_L1 y226 x3_1) (ji12)) == 0) = false := beq_eq_false_iff_ne.mpr c15
         have c15b1 : ((rd (rd_L1 y226 x3_1) (ji12)) != 0) = true := bne_iff_ne.mpr c15
         have H' := A_ H
         clear H; obtain ⟨hcz20_0, hcz20_1, hcz20_2, hcz20_3, hcz20_4, hcz20_5, hfz20_0, hfz20_1, hfz20_2, hfz20_3, hfz20_4, hfz20_5⟩ := cf6_ BK225
         go_wp2_with (first | ((with_reducible refine gate_dst (N := 15) rfl ?_); (try (refine gate_guard (by rfl) ?_; dsimp only)); refine Kd.N_lit (Kd.slice 57 (Kd.int .u64)) _ 39 ?hg (N' := 15) ?hd (xs := ([l0_2, l0_3, l0_4] : List (List Int))) (inner := [.slice A0_2 l0_2.length c0_2, .slice A0_3 l0_3.length c0_3, .slice A0_4 l0_4.length c0_4]) (ok := (fun k_ => ((P0_2_ k_ ∨ P0_3_ k_ ∨ P0_4_ k_) ∨ w.heap.size ≤ k_) ∧ k_ ≠ gb225)) (okp := (fun k_ => ((P0_2_ k_ ∨ P0_3_ k_ ∨ P0_4_ k_) ∨ w.heap.size ≤ k_) ∧ k_ ≠ gb225)) ?hr ?hp (fun _ hk => hk) ((show ∀ k_, wr.heap.size ≤ k_ → (fun k_ => ((P0_2_ k_ ∨ P0_3_ k_ ∨ P0_4_ k_) ∨ w.heap.size ≤ k_) ∧ k_ ≠ gb225) k_ from fun k_ hk => ⟨(.inr (Nat.le_trans (below_size (hB_ w)) hk)), Kd.freshB (g := gb225) (b_ BK225) k_ hk⟩) _ (Nat.le_refl _)) (Below.refl _ _) (Nat.le_refl _) (by simp) ?_; (case hd => rfl); (case hg => rfl); (case hr => first | (go_simp; done) | (go_simp; rfl)); (case hp => exact (Reps.one (show Kd.FK (Kd.slice 57 (Kd.int .u64)) _ _ l0_2 [.slice A0_2 l0_2.length c0_2] from (Kd.FK_slice_mk (Kd.V_reads' (Kd.V_mono (ok' := (fun k_ => ((P0_2_ k_ ∨ P0_3_ k_ ∨ P0_4_ k_) ∨ w.heap.size ≤ k_) ∧ k_ ≠ gb225)) (HO_226002.out) (fun k_ hk => ⟨hk.1, hk.2⟩))).2.1 (Kd.V_F (Kd.V_mono (ok' := (fun k_ => ((P0_2_ k_ ∨ P0_3_ k_ ∨ P0_4_ k_) ∨ w.heap.size ≤ k_) ∧ k_ ≠ gb225)) (HO_226002.out) (fun k_ hk => ⟨hk.1, hk.2⟩))))) (Reps.one (show Kd.FK (Kd.slice 57 (Kd.int .u64)) _ _ l0_3 [.slice A0_3 l0_3.length c0_3] from (Kd.FK_slice_mk (Kd.V_reads' (Kd.V_mono (ok' := (fun k_ => ((P0_2_ k_ ∨ P0_3_ k_ ∨ P0_4_ k_) ∨ w.heap.size ≤ k_) ∧ k_ ≠ gb225)) (HO_226003.out) (fun k_ hk => ⟨hk.1, hk.2⟩))).2.1 (Kd.V_F (Kd.V_mono (ok' := (fun k_ => ((P0_2_ k_ ∨ P0_3_ k_ ∨ P0_4_ k_) ∨ w.heap.size ≤ k_) ∧ k_ ≠ gb225)) (HO_226003.out) (fun k_ hk => ⟨hk.1, hk.2⟩))))) (Reps.one (show Kd.FK (Kd.slice 57 (Kd.int .u64)) _ _ l0_4 [.slice A0_4 l0_4.length c0_4] from (Kd.FK_slice_mk (Kd.V_reads' (Kd.V_mono (ok' := (fun k_ => ((P0_2_ k_ ∨ P0_3_ k_ ∨ P0_4_ k_) ∨ w.heap.size ≤ k_) ∧ k_ ≠ gb225)) (HO_226004.out) (fun k_ hk => ⟨hk.1, hk.2⟩))).2.1 (Kd.V_F (Kd.V_mono (ok' := (fun k_ => ((P0_2_ k_ ∨ P0_3_ k_ ∨ P0_4_ k_) ∨ w.heap.size ≤ k_) ∧ k_ ≠ gb225)) (HO_226004.out) (fun k_ hk => ⟨hk.1, hk.2⟩))))) (Reps.none _ _))))); intro v227 w21 ho22 hb hg_ hnew_; clear hg_ hnew_; (first | rw [← Ny226.out] at ho22 | (simp only [Int.reduceToNat] at ho22; rw [← Ny226.out] at ho22)); replace HO_226002 := A_ (Kd.V_elder' (v_ HO_226002) (Kd.N_base ho22) hb); replace HO_226003 := A_ (Kd.V_elder' (v_ HO_226003) (Kd.N_base ho22) hb); replace HO_226004 := A_ (Kd.V_elder' (v_ HO_226004) (Kd.N_base ho22) hb); have HO228 := A_ (Kd.N_lower ho22 (below_size (hB_ w))); replace BK225 := A_ (blk_below (g := gb225) (b_ BK225) hb); replace HB := A_ (below_step (hB_ w) hb); clear hb ho22; obtain ⟨Ao23, co23, eo23⟩ := Kd.N_slice HO228.out; subst eo23; have p229 : 0 ≤ (x3_1 : Int) := of_decide_eq_true (by first | (with_reducible assumption) | assumption); have q229 : x3_1 < (y226.length : Int) := of_decide_eq_true (by first | (with_reducible assumption) | assumption); obtain ⟨ad229, A229_0, c229_0, e229, hx229_0, hl229_0, hi229_0⟩ := at_L1 (Kd.N_reads' HO228.out).2.2 x3_1 p229 q229; cases e229; obtain ⟨ce229, hce229, hMe229, hcc229⟩ := Kd.N_get HO228.out [] x3_1 p229 (by first | exact q229 | exact of_decide_eq_true (by first | (with_reducible assumption) | assumption) | (have e_ := (Kd.N_reads' HO228.out).1; omega)); obtain ⟨ua229_0, uc229_0, rfl, ul229_0, ge229_0⟩ := Kd.FK_slice_open hMe229; have hv229_0 := hcc229 0 _ rfl; rw [Nat.add_zero, show ((Kd.slice 57 (Kd.int .u64))).sz = 1 from rfl, Nat.mul_one] at hv229_0; replace hv229_0 := Option.some.inj (hv229_0.symm.trans hx229_0); injection hv229_0 with hva_ hvn_ hvc_; rw [hva_] at ge229_0; rw [hvc_] at ul229_0; have HL229_0 := A_ (show Kd.V (Kd.int .u64) 57 _ w.heap.size _ _ (rd_L1 y226 x3_1) from Kd.V_mk ul229_0 ge229_0); clear hva_ hvn_ hvc_ ge229_0 ul229_0; clear hcc229 hce229; have HR229_0 := A_ hi229_0; have HC229_0 := A_ hl229_0; clear hi229_0 hl229_0; replace p229 := eq_true p229; replace q229 := eq_true q229; have p230 : 0 ≤ ((ji12) : Int) := of_decide_eq_true (by first | (with_reducible assumption) | assumption); have q230 : (ji12) < ((rd_L1 y226 x3_1).length : Int) := of_decide_eq_true (by first | (with_reducible assumption) | assumption); obtain ⟨ad230, e230, hx230_0⟩ := Kd.at_int (by repeat (first | (with_reducible exact HR229_0.out) | (with_reducible refine Kd.C_alloc ?_ _) | (with_reducible refine Kd.C_drewN ?_ _) | (with_reducible refine Kd.C_drew ?_) | exact HR229_0.out)) (ji12) p230 q230; cases e230; replace p230 := eq_true p230; replace q230 := eq_true q230))
         go_roundg k1
         case measure => have := HK1.out; omega
         case rel => exact ⟨(wrap64 (x3_1 + 1)), (by first | rfl | (simp; done) | (simp [*]; done)), H', ⟨by have := HK1.out; omega⟩, ⟨Kd.V_mono (v_ HO_226002) (fun _ hk => ⟨hk.1.1, hk.1.2⟩)⟩, ⟨Kd.V_mono (v_ HO_226003) (fun _ hk => ⟨hk.1.1, hk.1.2⟩)⟩, ⟨Kd.V_mono (v_ HO_226004) (fun _ hk => ⟨hk.1.1, hk.1.2⟩)⟩, ⟨b_ BK225⟩, ⟨hB_ w⟩⟩
        rw [if_neg c14] at H
        exact absurd H (by simp)
       rw [if_neg c13] at H
       exact absurd H (by simp)
      rw [if_neg c11] at H
      have c11b0 : decide (0 < ((rd_L1 y226 x3_1).length : Int)) = false := decide_eq_false c11
      have c11b1 : decide (0 < (rd_L1 y226 x3_1).length) = false := decide_eq_false (by omega)
      clear c11
      have H' := A_ H
      clear H; obtain ⟨hcz24_0, hcz24_1, hcz24_2, hcz24_3, hcz24_4, hcz24_5, hfz24_0, hfz24_1, hfz24_2, hfz24_3, hfz24_4, hfz24_5⟩ := cf6_ BK225
      go_wp2_with (first | ((with_reducible refine gate_dst (N := 15) rfl ?_); (try (refine gate_guard (by rfl) ?_; dsimp only)); refine Kd.N_lit (Kd.slice 57 (Kd.int .u64)) _ 39 ?hg (N' := 15) ?hd (xs := ([l0_2, l0_3, l0_4] : List (List Int))) (inner := [.slice A0_2 l0_2.length c0_2, .slice A0_3 l0_3.length c0_3, .slice A0_4 l0_4.length c0_4]) (ok := (fun k_ => ((P0_2_ k_ ∨ P0_3_ k_ ∨ P0_4_ k_) ∨ w.heap.size ≤ k_) ∧ k_ ≠ gb225)) (okp := (fun k_ => ((P0_2_ k_ ∨ P0_3_ k_ ∨ P0_4_ k_) ∨ w.heap.size ≤ k_) ∧ k_ ≠ gb225)) ?hr ?hp (fun _ hk => hk) ((show ∀ k_, wr.heap.size ≤ k_ → (fun k_ => ((P0_2_ k_ ∨ P0_3_ k_ ∨ P0_4_ k_) ∨ w.heap.size ≤ k_) ∧ k_ ≠ gb225) k_ from fun k_ hk => ⟨(.inr (Nat.le_trans (below_size (hB_ w)) hk)), Kd.freshB (g := gb225) (b_ BK225) k_ hk⟩) _ (Nat.le_refl _)) (Below.refl _ _) (Nat.le_refl _) (by simp) ?_; (case hd => rfl); (case hg => rfl); (case hr => first | (go_simp; done) | (go_simp; rfl)); (case hp => exact (Reps.one (show Kd.FK (Kd.slice 57 (Kd.int .u64)) _ _ l0_2 [.slice A0_2 l0_2.length c0_2] from (Kd.FK_slice_mk (Kd.V_reads' (Kd.V_mono (ok' := (fun k_ => ((P0_2_ k_ ∨ P0_3_ k_ ∨ P0_4_ k_) ∨ w.heap.size ≤ k_) ∧ k_ ≠ gb225)) (HO_226002.out) (fun k_ hk => ⟨hk.1, hk.2⟩))).2.1 (Kd.V_F (Kd.V_mono (ok' := (fun k_ => ((P0_2_ k_ ∨ P0_3_ k_ ∨ P0_4_ k_) ∨ w.heap.size ≤ k_) ∧ k_ ≠ gb225)) (HO_226002.out) (fun k_ hk => ⟨hk.1, hk.2⟩))))) (Reps.one (show Kd.FK (Kd.slice 57 (Kd.int .u64)) _ _ l0_3 [.slice A0_3 l0_3.length c0_3] from (Kd.FK_slice_mk (Kd.V_reads' (Kd.V_mono (ok' := (fun k_ => ((P0_2_ k_ ∨ P0_3_ k_ ∨ P0_4_ k_) ∨ w.heap.size ≤ k_) ∧ k_ ≠ gb225)) (HO_226003.out) (fun k_ hk => ⟨hk.1, hk.2⟩))).2.1 (Kd.V_F (Kd.V_mono (ok' := (fun k_ => ((P0_2_ k_ ∨ P0_3_ k_ ∨ P0_4_ k_) ∨ w.heap.size ≤ k_) ∧ k_ ≠ gb225)) (HO_226003.out) (fun k_ hk => ⟨hk.1, hk.2⟩))))) (Reps.one (show Kd.FK (Kd.slice 57 (Kd.int .u64)) _ _ l0_4 [.slice A0_4 l0_4.length c0_4] from (Kd.FK_slice_mk (Kd.V_reads' (Kd.V_mono (ok' := (fun k_ => ((P0_2_ k_ ∨ P0_3_ k_ ∨ P0_4_ k_) ∨ w.heap.size ≤ k_) ∧ k_ ≠ gb225)) (HO_226004.out) (fun k_ hk => ⟨hk.1, hk.2⟩))).2.1 (Kd.V_F (Kd.V_mono (ok' := (fun k_ => ((P0_2_ k_ ∨ P0_3_ k_ ∨ P0_4_ k_) ∨ w.heap.size ≤ k_) ∧ k_ ≠ gb225)) (HO_226004.out) (fun k_ hk => ⟨hk.1, hk.2⟩))))) (Reps.none _ _))))); intro v227 w25 ho26 hb hg_ hnew_; clear hg_ hnew_; (first | rw [← Ny226.out] at ho26 | (simp only [Int.reduceToNat] at ho26; rw [← Ny226.out] at ho26)); replace HO_226002 := A_ (Kd.V_elder' (v_ HO_226002) (Kd.N_base ho26) hb); replace HO_226003 := A_ (Kd.V_elder' (v_ HO_226003) (Kd.N_base ho26) hb); replace HO_226004 := A_ (Kd.V_elder' (v_ HO_226004) (Kd.N_base ho26) hb); have HO228 := A_ (Kd.N_lower ho26 (below_size (hB_ w))); replace BK225 := A_ (blk_below (g := gb225) (b_ BK225) hb); replace HB := A_ (below_step (hB_ w) hb); clear hb ho26; obtain ⟨Ao27, co27, eo27⟩ := Kd.N_slice HO228.out; subst eo27; have p229 : 0 ≤ (x3_1 : Int) := of_decide_eq_true (by first | (with_reducible assumption) | assumption); have q229 : x3_1 < (y226.length : Int) := of_decide_eq_true (by first | (with_reducible assumption) | assumption); obtain ⟨ad229, A229_0, c229_0, e229, hx229_0, hl229_0, hi229_0⟩ := at_L1 (Kd.N_reads' HO228.out).2.2 x3_1 p229 q229; cases e229; obtain ⟨ce229, hce229, hMe229, hcc229⟩ := Kd.N_get HO228.out [] x3_1 p229 (by first | exact q229 | exact of_decide_eq_true (by first | (with_reducible assumption) | assumption) | (have e_ := (Kd.N_reads' HO228.out).1; omega)); obtain ⟨ua229_0, uc229_0, rfl, ul229_0, ge229_0⟩ := Kd.FK_slice_open hMe229; have hv229_0 := hcc229 0 _ rfl; rw [Nat.add_zero, show ((Kd.slice 57 (Kd.int .u64))).sz = 1 from rfl, Nat.mul_one] at hv229_0; replace hv229_0 := Option.some.inj (hv229_0.symm.trans hx229_0); injection hv229_0 with hva_ hvn_ hvc_; rw [hva_] at ge229_0; rw [hvc_] at ul229_0; have HL229_0 := A_ (show Kd.V (Kd.int .u64) 57 _ w.heap.size _ _ (rd_L1 y226 x3_1) from Kd.V_mk ul229_0 ge229_0); clear hva_ hvn_ hvc_ ge229_0 ul229_0; clear hcc229 hce229; have HR229_0 := A_ hi229_0; have HC229_0 := A_ hl229_0; clear hi229_0 hl229_0; replace p229 := eq_true p229; replace q229 := eq_true q229))
      go_roundg k1
      case measure => have := HK1.out; omega
      case rel => exact ⟨(wrap64 (x3_1 + 1)), (by first | rfl | (simp; done) | (simp [*]; done)), H', ⟨by have := HK1.out; omega⟩, ⟨Kd.V_mono (v_ HO_226002) (fun _ hk => ⟨hk.1.1, hk.1.2⟩)⟩, ⟨Kd.V_mono (v_ HO_226003) (fun _ hk => ⟨hk.1.1, hk.1.2⟩)⟩, ⟨Kd.V_mono (v_ HO_226004) (fun _ hk => ⟨hk.1.1, hk.1.2⟩)⟩, ⟨b_ BK225⟩, ⟨hB_ w⟩⟩
     rw [if_neg c5] at H
     exact absurd H (by simp)
    rw [if_neg c4] at H
    exact absurd H (by simp)
   rw [if_neg c3] at H
   have c3b0 : decide (x3_1 < 3) = false := decide_eq_false c3
   clear c3
   obtain rfl := Option.some.inj H
   go_wp2
   go_ret
   exact ⟨by first | rfl | (simp [errW_none, errW_some] <;> rfl) | (simp [*, errW_none, errW_some] <;> rfl), hB_ w⟩

end Go.Proofs.Ytbpobnlkfpjijaa.Pr
end
-- Pr34
section
namespace Go.Proofs.Ytbpobnlkfpjijaa.Pr
open Go.RowKit Go.Proofs.YtbpobnlkfpjijaaW.PrintWords Go.Proofs.YtbpobnlkfpjijaaW.PrintLast Go.Proofs.YtbpobnlkfpjijaaW.PrintMore
attribute [local go_sem] max2_int min2_int max_two min_two max_three min_three max_four min_four   -- for this text's walks alone
set_option linter.unusedVariables false
set_option linter.unusedSimpArgs false

attribute [local go_sem] Go.Proofs.Aid.cell_set_row
mutual
def tallystickref19_Small.j0 : Nat → List (S41) → Bool → Option (Bool)
 | 0, _, _ => none
 | k + 1, x1, x29 => if x29 = true then (some false) else (tallystickref19_Small.l0 k x1 0)
def tallystickref19_Small.l0 : Nat → List (S41) → Int → Option (Bool)
 | 0, _, _ => none
 | k + 1, x1, x5 => if x5 < (x1.length : Int) then (if 0 ≤ x5 then ((tallystickref17_May.f k ((rd_T41 x1 x5).f0.f0) ((rd_T41 x1 x5).f0.f1) ((rd_T41 x1 x5).f1) ((rd_T41 x1 x5).f2) ((rd_T41 x1 x5).f3) ((rd_T41 x1 x5).f4)).bind fun t233 => (if t233 = true then (tallystickref19_Small.l0 k x1 (wrap64 (x5 + 1))) else (some false))) else (none)) else (some true)
end
def tallystickref19_Small.f (k : Nat) (a0_0 : Int) (a0_1 : Int) (a0_2 : Int) (l1 : List (S41)) : Option (Bool) := if a0_1 < (-1000) then (tallystickref19_Small.j0 k l1 true) else (if a0_1 > 60 then (tallystickref19_Small.j0 k l1 true) else (if a0_2 < (-1000) then (tallystickref19_Small.j0 k l1 true) else (if a0_2 > 60 then (tallystickref19_Small.j0 k l1 true) else (tallystickref19_Small.j0 k l1 (decide ((l1.length : Int) > 60))))))
theorem tallystickref19_Small.mono_l : ∀ k, (∀ y0 y1, LeO (tallystickref19_Small.j0 k y0 y1) (tallystickref19_Small.j0 (k + 1) y0 y1)) ∧ (∀ y0 y1, LeO (tallystickref19_Small.l0 k y0 y1) (tallystickref19_Small.l0 (k + 1) y0 y1))
 | 0 => ⟨fun _ _ r h => by simp [tallystickref19_Small.j0] at h, fun _ _ r h => by simp [tallystickref19_Small.l0] at h⟩
 | k + 1 => by
  obtain ⟨ih0, ih1⟩ := tallystickref19_Small.mono_l k
  refine ⟨?_, ?_⟩
  ·intro y0 y1
   unfold tallystickref19_Small.j0
   repeat' first
   | (with_reducible exact ih0 _ _)
   | (with_reducible exact ih1 _ _)
   | (with_reducible exact tallystickref17_May.mono _ _ _ _ _ _ _)
   | (with_reducible exact LeO.refl _)
   | (with_reducible exact LeO.none _)
   | (with_reducible refine LeO.ite ?_ ?_)
   | (with_reducible refine LeO.bind ?_ (fun _ => ?_))
   | exact ih0 _ _
   | exact ih1 _ _
   | exact tallystickref17_May.mono _ _ _ _ _ _ _
   | exact LeO.none _
   | refine LeO.ite ?_ ?_
   | refine LeO.bind ?_ (fun _ => ?_)
  intro y0 y1
  unfold tallystickref19_Small.l0
  repeat' first
  | (with_reducible exact ih0 _ _)
  | (with_reducible exact ih1 _ _)
  | (with_reducible exact tallystickref17_May.mono _ _ _ _ _ _ _)
  | (with_reducible exact LeO.refl _)
  | (with_reducible exact LeO.none _)
  | (with_reducible refine LeO.ite ?_ ?_)
  | (with_reducible refine LeO.bind ?_ (fun _ => ?_))
  | exact ih0 _ _
  | exact ih1 _ _
  | exact tallystickref17_May.mono _ _ _ _ _ _ _
  | exact LeO.none _
  | refine LeO.ite ?_ ?_
  | refine LeO.bind ?_ (fun _ => ?_)
theorem tallystickref19_Small.mono : ∀ a0 a1 a2 a3 k, LeO (tallystickref19_Small.f k a0 a1 a2 a3) (tallystickref19_Small.f (k + 1) a0 a1 a2 a3) := by
 intro a0 a1 a2 a3 k
 obtain ⟨ih0, ih1⟩ := tallystickref19_Small.mono_l k
 unfold tallystickref19_Small.f
 repeat' first
   | (with_reducible exact ih0 _ _)
   | (with_reducible exact ih1 _ _)
   | (with_reducible exact tallystickref17_May.mono _ _ _ _ _ _ _)
   | (with_reducible exact LeO.refl _)
   | (with_reducible exact LeO.none _)
   | (with_reducible refine LeO.ite ?_ ?_)
   | (with_reducible refine LeO.bind ?_ (fun _ => ?_))
   | exact ih0 _ _
   | exact ih1 _ _
   | exact tallystickref17_May.mono _ _ _ _ _ _ _
   | exact LeO.none _
   | refine LeO.ite ?_ ?_
   | refine LeO.bind ?_ (fun _ => ?_)
set_option maxHeartbeats 8000000 in
set_option maxRecDepth 100000 in
theorem tallystickref19_Small.calls (k : Nat) (a0_0 : Int) (a0_1 : Int) (a0_2 : Int) (A1 : Option Addr) (c1 : Nat) (l1 : List (S41)) (r : Bool) (w : World) (hr1 : Kd.C k41 w A1 l1.length l1) (hc1 : l1.length ≤ c1) (h : tallystickref19_Small.f k a0_0 a0_1 a0_2 l1 = some r) :
  Calls Try.prog 13 #[.agg #[.int .i64 a0_0, .int .i64 a0_1, .int .i64 a0_2], .slice A1 l1.length c1] w fun e w' => e = .returned (.bool r) ∧ Below w.heap.size w w' := by
 have hu23 := Try.underlying23
 have hu41 := Try.underlying41
 have HR1 := A_ hr1; have HC1 := A_ hc1; clear hr1 hc1; have HB := A_ (Below.refl w.heap.size w)
 have H : (if a0_1 < (-1000) then (tallystickref19_Small.j0 k l1 true) else (if a0_1 > 60 then (tallystickref19_Small.j0 k l1 true) else (if a0_2 < (-1000) then (tallystickref19_Small.j0 k l1 true) else (if a0_2 > 60 then (tallystickref19_Small.j0 k l1 true) else (tallystickref19_Small.j0 k l1 (decide ((l1.length : Int) > 60))))))) = some r := h
 clear h; have HC3 := A_ H; clear H
 go_enter Try.func13, Try.ntmps13
 go_upto_region 1 with (first | ((with_reducible refine gate_dst (N := 2) rfl ?_); (try (refine gate_guard (by rfl) ?_; dsimp only)); refine box_event ?hg (N := 2) ?hd (cs := #[.int .i64 a0_0, .int .i64 a0_1, .int .i64 a0_2]) (t := 23) ?hr ?_; (case hd => rfl); (case hg => rfl); (case hr => first | (go_simp; done) | (go_simp; rfl)); intro gb231 hg w4 hbox hb; have BK231 := A_ hbox; have GW231 := A_ ((by rw [hg]; exact (below_size (hB_ w)) : w.heap.size ≤ gb231)); have GE231 := A_ ((by rw [hg]; exact (below_size (hB_ w)) : w.heap.size ≤ gb231)); replace HB := A_ (below_step (hB_ w) hb); clear hb hbox hg))
 (try simp only [Act.put, List.setIfInBounds_toArray, List.set_cons_zero, List.set_cons_succ])
 go_cut [29] (fun v29 wc => ∃ (kq : Nat) (x29_2 : Bool), v29 = .bool x29_2 ∧ AsC (tallystickref19_Small.j0 kq l1 x29_2 = some r) ∧ AsC (kq ≤ k) ∧ AsC (wc.heap[gb231]? = some (.cells #[.int .i64 a0_0, .int .i64 a0_1, .int .i64 a0_2] 23 (0, 0))) ∧ AsC (Below w.heap.size w wc))
 case first =>
  have H := HC3.out; clear HC3
  by_cases c5 : a0_1 < (-1000)
  ·rw [if_pos c5] at H
   have c5b0 : decide (a0_1 < (-1000)) = true := decide_eq_true c5
   clear c5
   (first | rw [c5b0] | (simp only [i64_w, i32_w]; rw [c5b0]) | skip)
   have H' := A_ H
   clear H; obtain ⟨hcz6_0, hcz6_1, hcz6_2, hfz6_0, hfz6_1, hfz6_2⟩ := cf3_ BK231
   go_wp2
   go_meet
   case rel => exact ⟨_, (true), (by first | rfl | (simp; done) | (simp [*]; done)), H', ⟨by first | omega | exact Nat.le_refl _⟩, ⟨b_ BK231⟩, ⟨hB_ w⟩⟩
  rw [if_neg c5] at H
  have c5b0 : decide (a0_1 < (-1000)) = false := decide_eq_false c5
  clear c5
  (first | rw [c5b0] | (simp only [i64_w, i32_w]; rw [c5b0]) | skip)
  by_cases c7 : a0_1 > 60
  ·rw [if_pos c7] at H
   have c7b0 : decide (60 < a0_1) = true := decide_eq_true c7
   clear c7
   have H' := A_ H
   clear H; obtain ⟨hcz8_0, hcz8_1, hcz8_2, hfz8_0, hfz8_1, hfz8_2⟩ := cf3_ BK231
   go_wp2
   go_meet
   case rel => exact ⟨_, (true), (by first | rfl | (simp; done) | (simp [*]; done)), H', ⟨by first | omega | exact Nat.le_refl _⟩, ⟨b_ BK231⟩, ⟨hB_ w⟩⟩
  rw [if_neg c7] at H
  have c7b0 : decide (60 < a0_1) = false := decide_eq_false c7
  clear c7
  by_cases c9 : a0_2 < (-1000)
  ·rw [if_pos c9] at H
   have c9b0 : decide (a0_2 < (-1000)) = true := decide_eq_true c9
   clear c9
   have H' := A_ H
   clear H; obtain ⟨hcz10_0, hcz10_1, hcz10_2, hfz10_0, hfz10_1, hfz10_2⟩ := cf3_ BK231
   go_wp2
   go_meet
   case rel => exact ⟨_, (true), (by first | rfl | (simp; done) | (simp [*]; done)), H', ⟨by first | omega | exact Nat.le_refl _⟩, ⟨b_ BK231⟩, ⟨hB_ w⟩⟩
  rw [if_neg c9] at H
  have c9b0 : decide (a0_2 < (-1000)) = false := decide_eq_false c9
  clear c9
  by_cases c11 : a0_2 > 60
  ·rw [if_pos c11] at H
   have c11b0 : decide (60 < a0_2) = true := decide_eq_true c11
   clear c11
   have H' := A_ H
   clear H; obtain ⟨hcz12_0, hcz12_1, hcz12_2, hfz12_0, hfz12_1, hfz12_2⟩ := cf3_ BK231
   go_wp2
   go_meet
   case rel => exact ⟨_, (true), (by first | rfl | (simp; done) | (simp [*]; done)), H', ⟨by first | omega | exact Nat.le_refl _⟩, ⟨b_ BK231⟩, ⟨hB_ w⟩⟩
  rw [if_neg c11] at H
  have c11b0 : decide (60 < a0_2) = false := decide_eq_false c11
  clear c11
  have H' := A_ H
  clear H; obtain ⟨hcz13_0, hcz13_1, hcz13_2, hfz13_0, hfz13_1, hfz13_2⟩ := cf3_ BK231
  go_wp2
  go_meet
  case rel => exact ⟨_, (decide ((l1.length : Int) > 60)), (by first | rfl | (simp; done) | (simp [*]; done)), H', ⟨by first | omega | exact Nat.le_refl _⟩, ⟨b_ BK231⟩, ⟨hB_ w⟩⟩
 case rest =>
  clear HC3; try clear c1; try clear p2; try clear c5; try clear c5b0; try clear c7; try clear c7b0; try clear c9; try clear c9b0; try clear c11; try clear c11b0; try clear c13; try clear hcz10_0; try clear hcz10_1; try clear hcz10_2; try clear hcz12_0; try clear hcz12_1; try clear hcz12_2; try clear hcz13_0; try clear hcz13_1; try clear hcz13_2; try clear hcz6_0; try clear hcz6_1; try clear hcz6_2; try clear hcz8_0; try clear hcz8_1; try clear hcz8_2; try clear hfz10_0; try clear hfz10_1; try clear hfz10_2; try clear hfz12_0; try clear hfz12_1; try clear hfz12_2; try clear hfz13_0; try clear hfz13_1; try clear hfz13_2; try clear hfz6_0; try clear hfz6_1; try clear hfz6_2; try clear hfz8_0; try clear hfz8_1; try clear hfz8_2
  obtain ⟨kq, x29_2, rfl, HA, HJ2, BK231, HB⟩ := hcut
  cases kq with
  | zero => exact absurd HA.out (by simp [tallystickref19_Small.j0])
  | succ kj2 =>
   have H := HA.out; clear HA
   simp only [tallystickref19_Small.j0] at H
   by_cases c14 : x29_2 = true
   ·subst c14
    have H1 : (some false) = some r := by rw [if_pos rfl] at H; exact H
    clear H
    have H := H1
    clear H1
    obtain rfl := Option.some.inj H
    go_wp2
    go_ret
    exact ⟨by first | rfl | (simp [errW_none, errW_some] <;> rfl) | (simp [*, errW_none, errW_some] <;> rfl), hB_ w⟩
   replace c14 := Bool.eq_false_iff.mpr c14
   subst c14
   have H1 : (tallystickref19_Small.l0 kj2 l1 0) = some r := by rw [if_neg (show ¬ (false = true) by decide)] at H; exact H
   clear H
   have H := H1
   clear H1
   have H' := A_ H
   clear H
   go_wp2
   go_loopg [5] kj2 (fun kq v5 w' => ∃ (x5_2 : Int), v5 = .int .i64 x5_2 ∧ AsC (tallystickref19_Small.l0 kq l1 x5_2 = some r) ∧ AsC (kq ≤ kj2) ∧ AsC (w'.heap[gb231]? = some (.cells #[.int .i64 a0_0, .int .i64 a0_1, .int .i64 a0_2] 23 (0, 0))) ∧ AsC (Below w.heap.size w w'))
   case atStart => exact ⟨(0), (by first | rfl | (simp; done) | (simp [*]; done)), H', ⟨Nat.le_refl _⟩, ⟨b_ BK231⟩, ⟨hB_ w⟩⟩
   case round =>
    clear H'; try clear c1; try clear p2; try clear c5; try clear c5b0; try clear c7; try clear c7b0; try clear c9; try clear c9b0; try clear c11; try clear c11b0; try clear c13; try clear c14; try clear hcz10_0; try clear hcz10_1; try clear hcz10_2; try clear hcz12_0; try clear hcz12_1; try clear hcz12_2; try clear hcz13_0; try clear hcz13_1; try clear hcz13_2; try clear hcz6_0; try clear hcz6_1; try clear hcz6_2; try clear hcz8_0; try clear hcz8_1; try clear hcz8_2; try clear hfz10_0; try clear hfz10_1; try clear hfz10_2; try clear hfz12_0; try clear hfz12_1; try clear hfz12_2; try clear hfz13_0; try clear hfz13_1; try clear hfz13_2; try clear hfz6_0; try clear hfz6_1; try clear hfz6_2; try clear hfz8_0; try clear hfz8_1; try clear hfz8_2; try clear p2
    obtain ⟨x5_2, rfl, HA, HK2, BK231, HB⟩ := hrel
    cases gk with
    | zero => exact absurd HA.out (by simp [tallystickref19_Small.l0])
    | succ k2 =>
     have H := HA.out; clear HA
     simp only [tallystickref19_Small.l0] at H
     by_cases c15 : x5_2 < (l1.length : Int)
     ·rw [if_pos c15] at H
      have c15b0 : decide (x5_2 < (l1.length : Int)) = true := decide_eq_true c15
      clear c15
      by_cases c16 : 0 ≤ x5_2
      ·rw [if_pos c16] at H
       have c16b0 : decide (0 ≤ x5_2) = true := decide_eq_true c16
       clear c16
       replace H := Option.bind_eq_some_iff.mp H
       obtain ⟨t233, A170, H⟩ := H
       replace H : (if t233 = true then (tallystickref19_Small.l0 k2 l1 (wrap64 (x5_2 + 1))) else (some false)) = some r := H
       have A17 := A_ A170; clear A170
       by_cases c18 : t233 = true
       ·subst c18
        have H1 : (tallystickref19_Small.l0 k2 l1 (wrap64 (x5_2 + 1))) = some r := by rw [if_pos rfl] at H; exact H
        clear H
        have H := H1
        clear H1
        have H' := A_ H
        clear H
        have p232 : 0 ≤ (x5_2 : Int) := of_decide_eq_true (by first | (with_reducible assumption) | assumption)
        have q232 : x5_2 < (l1.length : Int) := of_decide_eq_true (by first | (with_reducible assumption) | assumption)
        obtain ⟨ad232, A232_2, c232_2, A232_3, c232_3, A232_4, c232_4, e232, hx232_0, hx232_1, hx232_2, hx232_3, hx232_4, hx232_5, hl232_2, hi232_2, hl232_3, hi232_3, hl232_4, hi232_4⟩ := at_T41 HR1.out x5_2 p232 q232
        cases e232
        replace hx232_0 := (HB.out.cell (World.block_lt_of_cell? w _ hx232_0)).trans hx232_0
        replace hx232_1 := (HB.out.cell (World.block_lt_of_cell? w _ hx232_1)).trans hx232_1
        replace hx232_2 := (HB.out.cell (World.block_lt_of_cell? w _ hx232_2)).trans hx232_2
        replace hx232_3 := (HB.out.cell (World.block_lt_of_cell? w _ hx232_3)).trans hx232_3
        replace hx232_4 := (HB.out.cell (World.block_lt_of_cell? w _ hx232_4)).trans hx232_4
        replace hx232_5 := (HB.out.cell (World.block_lt_of_cell? w _ hx232_5)).trans hx232_5
        have HR232_2 := A_ hi232_2; have HC232_2 := A_ hl232_2; clear hi232_2 hl232_2; have HR232_3 := A_ hi232_3; have HC232_3 := A_ hl232_3; clear hi232_3 hl232_3; have HR232_4 := A_ hi232_4; have HC232_4 := A_ hl232_4; clear hi232_4 hl232_4
        replace p232 := eq_true p232
        replace q232 := eq_true q232
        go_wp2_with (first | ((with_reducible refine gate_callee (f := 35) rfl ?_); refine goesL_ (some 40) rfl rfl Try.func35 (by kernel_rfl) rfl #[.agg #[.int .i64 ((rd_T41 l1 x5_2).f0.f0), .int .i64 ((rd_T41 l1 x5_2).f0.f1), .slice A232_2 ((rd_T41 l1 x5_2).f1).length c232_2, .slice A232_3 ((rd_T41 l1 x5_2).f2).length c232_3, .slice A232_4 ((rd_T41 l1 x5_2).f3).length c232_4, .bool ((rd_T41 l1 x5_2).f4)]] rfl (by (try simp only [List.map_toArray, List.map_cons, List.map_nil]); first | done | rfl | (simp only [List.length_drop, List.length_take]; rfl)) ?_; (with_reducible refine (tallystickref17_May.calls k2 ((rd_T41 l1 x5_2).f0.f0) ((rd_T41 l1 x5_2).f0.f1) (fun k_ => k_ < w.heap.size) _ _ ((rd_T41 l1 x5_2).f1) (fun k_ => k_ < w.heap.size) _ _ ((rd_T41 l1 x5_2).f2) (fun k_ => k_ < w.heap.size) _ _ ((rd_T41 l1 x5_2).f3) ((rd_T41 l1 x5_2).f4) true _ ?side1 ?side2 ?side3 A17.out).mono ?_); (case side1 => exact Kd.V_mk HC232_2.out (Kd.F_below (Kd.C_F (Kd.heap_int .u64) HR232_2.out) (hB_ w))); (case side2 => exact Kd.V_mk HC232_3.out (Kd.F_below (Kd.C_F (Kd.heap_int .u64) HR232_3.out) (hB_ w))); (case side3 => exact Kd.V_mk HC232_4.out (Kd.F_below (Kd.C_F (Kd.heap_int .u64) HR232_4.out) (hB_ w))); rintro e w19 ⟨rfl, hb⟩; refine ⟨_, rfl, ?_⟩; replace BK231 := A_ (blk_below (g := gb231) (b_ BK231) hb); replace HB := A_ (below_step (hB_ w) hb); (try clear hb); (try clear hb2); (try clear hk); (try clear hi)))
        go_roundg k2
        case measure => have := HJ2.out; have := HK2.out; omega
        case rel => exact ⟨(wrap64 (x5_2 + 1)), (by first | rfl | (simp; done) | (simp [*]; done)), H', ⟨by have := HJ2.out; have := HK2.out; omega⟩, ⟨b_ BK231⟩, ⟨hB_ w⟩⟩
       replace c18 := Bool.eq_false_iff.mpr c18
       subst c18
       have H1 : (some false) = some r := by rw [if_neg (show ¬ (false = true) by decide)] at H; exact H
       clear H
       have H := H1
       clear H1
       obtain rfl := Option.some.inj H
       have p232 : 0 ≤ (x5_2 : Int) := of_decide_eq_true (by first | (with_reducible assumption) | assumption)
       have q232 : x5_2 < (l1.length : Int) := of_decide_eq_true (by first | (with_reducible assumption) | assumption)
       obtain ⟨ad232, A232_2, c232_2, A232_3, c232_3, A232_4, c232_4, e232, hx232_0, hx232_1, hx232_2, hx232_3, hx232_4, hx232_5, hl232_2, hi232_2, hl232_3, hi232_3, hl232_4, hi232_4⟩ := at_T41 HR1.out x5_2 p232 q232
       cases e232
       replace hx232_0 := (HB.out.cell (World.block_lt_of_cell? w _ hx232_0)).trans hx232_0
       replace hx232_1 := (HB.out.cell (World.block_lt_of_cell? w _ hx232_1)).trans hx232_1
       replace hx232_2 := (HB.out.cell (World.block_lt_of_cell? w _ hx232_2)).trans hx232_2
       replace hx232_3 := (HB.out.cell (World.block_lt_of_cell? w _ hx232_3)).trans hx232_3
       replace hx232_4 := (HB.out.cell (World.block_lt_of_cell? w _ hx232_4)).trans hx232_4
       replace hx232_5 := (HB.out.cell (World.block_lt_of_cell? w _ hx232_5)).trans hx232_5
       have HR232_2 := A_ hi232_2; have HC232_2 := A_ hl232_2; clear hi232_2 hl232_2; have HR232_3 := A_ hi232_3; have HC232_3 := A_ hl232_3; clear hi232_3 hl232_3; have HR232_4 := A_ hi232_4; have HC232_4 := A_ hl232_4; clear hi232_4 hl232_4
       replace p232 := eq_true p232
       replace q232 := eq_true q232
       go_wp2_with (first | ((with_reducible refine gate_callee (f := 35) rfl ?_); refine goesL_ (some 40) rfl rfl Try.func35 (by kernel_rfl) rfl #[.agg #[.int .i64 ((rd_T41 l1 x5_2).f0.f0), .int .i64 ((rd_T41 l1 x5_2).f0.f1), .slice A232_2 ((rd_T41 l1 x5_2).f1).length c232_2, .slice A232_3 ((rd_T41 l1 x5_2).f2).length c232_3, .slice A232_4 ((rd_T41 l1 x5_2).f3).length c232_4, .bool ((rd_T41 l1 x5_2).f4)]] rfl (by (try simp only [List.map_toArray, List.map_cons, List.map_nil]); first | done | rfl | (simp only [List.length_drop, List.length_take]; rfl)) ?_; (with_reducible refine (tallystickref17_May.calls k2 ((rd_T41 l1 x5_2).f0.f0) ((rd_T41 l1 x5_2).f0.f1) (fun k_ => k_ < w.heap.size) _ _ ((rd_T41 l1 x5_2).f1) (fun k_ => k_ < w.heap.size) _ _ ((rd_T41 l1 x5_2).f2) (fun k_ => k_ < w.heap.size) _ _ ((rd_T41 l1 x5_2).f3) ((rd_T41 l1 x5_2).f4) false _ ?side1 ?side2 ?side3 A17.out).mono ?_); (case side1 => exact Kd.V_mk HC232_2.out (Kd.F_below (Kd.C_F (Kd.heap_int .u64) HR232_2.out) (hB_ w))); (case side2 => exact Kd.V_mk HC232_3.out (Kd.F_below (Kd.C_F (Kd.heap_int .u64) HR232_3.out) (hB_ w))); (case side3 => exact Kd.V_mk HC232_4.out (Kd.F_below (Kd.C_F (Kd.heap_int .u64) HR232_4.out) (hB_ w))); rintro e w20 ⟨rfl, hb⟩; refine ⟨_, rfl, ?_⟩; replace BK231 := A_ (blk_below (g := gb231) (b_ BK231) hb); replace HB := A_ (below_step (hB_ w) hb); (try clear hb); (try clear hb2); (try clear hk); (try clear hi)))
       go_ret
       exact ⟨by first | rfl | (simp [errW_none, errW_some] <;> rfl) | (simp [*, errW_none, errW_some] <;> rfl), hB_ w⟩
      rw [if_neg c16] at H
      exact absurd H (by simp)
     rw [if_neg c15] at H
     have c15b0 : decide (x5_2 < (l1.length : Int)) = false := decide_eq_false c15
     clear c15
     obtain rfl := Option.some.inj H
     go_wp2
     go_ret
     exact ⟨by first | rfl | (simp [errW_none, errW_some] <;> rfl) | (simp [*, errW_none, errW_some] <;> rfl), hB_ w⟩

end Go.Proofs.Ytbpobnlkfpjijaa.Pr
end
-- Pr42
section
namespace Go.Proofs.Ytbpobnlkfpjijaa.Pr
open Go.RowKit Go.Proofs.YtbpobnlkfpjijaaW.PrintWords Go.Proofs.YtbpobnlkfpjijaaW.PrintLast Go.Proofs.YtbpobnlkfpjijaaW.PrintMore
attribute [local go_sem] max2_int min2_int max_two min_two max_three min_three max_four min_four   -- for this text's walks alone
set_option linter.unusedVariables false
set_option linter.unusedSimpArgs false

attribute [local go_sem] Go.Proofs.Aid.cell_set_row
attribute [local go_sem high] eqA29
def tallystickref19_Find.l0 : Nat → List (S41) → Int → Int → Int → Option (Int)
 | 0, _, _, _, _ => none
 | k + 1, x0, x5, x260000, x260001 => if x5 < (x0.length : Int) then (if 0 ≤ x5 then (if (((rd_T41 x0 x5).f0.f0) == x260000 && (((rd_T41 x0 x5).f0.f1) == x260001)) = true then (some x5) else (tallystickref19_Find.l0 k x0 (wrap64 (x5 + 1)) x260000 x260001)) else (none)) else (some (-1))
def tallystickref19_Find.f (k : Nat) (l0 : List (S41)) (a1_0 : Int) (a1_1 : Int) : Option (Int) := tallystickref19_Find.l0 k l0 0 a1_0 a1_1
theorem tallystickref19_Find.mono_l : ∀ k, (∀ y0 y1 y2 y3, LeO (tallystickref19_Find.l0 k y0 y1 y2 y3) (tallystickref19_Find.l0 (k + 1) y0 y1 y2 y3))
 | 0 => fun _ _ _ _ r h => by simp [tallystickref19_Find.l0] at h
 | k + 1 => by
  have ih0 := tallystickref19_Find.mono_l k
  intro y0 y1 y2 y3
  unfold tallystickref19_Find.l0
  repeat' first
  | (with_reducible exact ih0 _ _ _ _)
  | (with_reducible exact LeO.refl _)
  | (with_reducible exact LeO.none _)
  | (with_reducible refine LeO.ite ?_ ?_)
  | (with_reducible refine LeO.bind ?_ (fun _ => ?_))
  | exact ih0 _ _ _ _
  | exact LeO.none _
  | refine LeO.ite ?_ ?_
  | refine LeO.bind ?_ (fun _ => ?_)
theorem tallystickref19_Find.mono : ∀ a0 a1 a2 k, LeO (tallystickref19_Find.f k a0 a1 a2) (tallystickref19_Find.f (k + 1) a0 a1 a2) := by
 intro a0 a1 a2 k
 have ih0 := tallystickref19_Find.mono_l k
 unfold tallystickref19_Find.f
 repeat' first
   | (with_reducible exact ih0 _ _ _ _)
   | (with_reducible exact LeO.refl _)
   | (with_reducible exact LeO.none _)
   | (with_reducible refine LeO.ite ?_ ?_)
   | (with_reducible refine LeO.bind ?_ (fun _ => ?_))
   | exact ih0 _ _ _ _
   | exact LeO.none _
   | refine LeO.ite ?_ ?_
   | refine LeO.bind ?_ (fun _ => ?_)
set_option maxHeartbeats 8000000 in
set_option maxRecDepth 100000 in
theorem tallystickref19_Find.calls (k : Nat) (A0 : Option Addr) (c0 : Nat) (l0 : List (S41)) (a1_0 : Int) (a1_1 : Int) (r : Int) (w : World) (hr0 : Kd.C k41 w A0 l0.length l0) (hc0 : l0.length ≤ c0) (h : tallystickref19_Find.f k l0 a1_0 a1_1 = some r) :
  Calls Try.prog 18 #[.slice A0 l0.length c0, .agg #[.int .i64 a1_0, .int .i64 a1_1]] w fun e w' => e = .returned (.int .i64 r) ∧ Below w.heap.size w w' := by
 have hu29 := Try.underlying29
 have HR0 := A_ hr0; have HC0 := A_ hc0; clear hr0 hc0; have HB := A_ (Below.refl w.heap.size w)
 have H : (tallystickref19_Find.l0 k l0 0 a1_0 a1_1) = some r := h
 clear h
 have H' := A_ H
 clear H
 go_enter Try.func18, Try.ntmps18
 go_wp2_with (first | ((with_reducible refine gate_dst (N := 3) rfl ?_); refine box_event ?hg (N := 3) ?hd (cs := #[.int .i64 a1_0, .int .i64 a1_1]) (t := 29) ?hr ?_; (case hd => rfl); (case hg => rfl); (case hr => first | (go_simp; done) | (go_simp; rfl)); intro gb259 hg w3 hbox hb; have BK259 := A_ hbox; have GW259 := A_ ((by rw [hg]; exact (below_size (hB_ w)) : w.heap.size ≤ gb259)); have GE259 := A_ ((by rw [hg]; exact (below_size (hB_ w)) : w.heap.size ≤ gb259)); replace HB := A_ (below_step (hB_ w) hb); clear hb hbox hg))
 repeat (go_quiet (first | ((with_reducible refine gate_dst (N := 3) rfl ?_); refine box_event ?hg (N := 3) ?hd (cs := #[.int .i64 a1_0, .int .i64 a1_1]) (t := 29) ?hr ?_; (case hd => rfl); (case hg => rfl); (case hr => first | (go_simp; done) | (go_simp; rfl)); intro gb259 hg w3 hbox hb; have BK259 := A_ hbox; have GW259 := A_ ((by rw [hg]; exact (below_size (hB_ w)) : w.heap.size ≤ gb259)); have GE259 := A_ ((by rw [hg]; exact (below_size (hB_ w)) : w.heap.size ≤ gb259)); replace HB := A_ (below_step (hB_ w) hb); clear hb hbox hg)); try go_wp2_with (first | ((with_reducible refine gate_dst (N := 3) rfl ?_); refine box_event ?hg (N := 3) ?hd (cs := #[.int .i64 a1_0, .int .i64 a1_1]) (t := 29) ?hr ?_; (case hd => rfl); (case hg => rfl); (case hr => first | (go_simp; done) | (go_simp; rfl)); intro gb259 hg w3 hbox hb; have BK259 := A_ hbox; have GW259 := A_ ((by rw [hg]; exact (below_size (hB_ w)) : w.heap.size ≤ gb259)); have GE259 := A_ ((by rw [hg]; exact (below_size (hB_ w)) : w.heap.size ≤ gb259)); replace HB := A_ (below_step (hB_ w) hb); clear hb hbox hg)))
 go_loopg [5] k (fun kq v5 w' => ∃ (x5_1 : Int), v5 = .int .i64 x5_1 ∧ AsC (tallystickref19_Find.l0 kq l0 x5_1 a1_0 a1_1 = some r) ∧ AsC (kq ≤ k) ∧ AsC (w'.heap[gb259]? = some (.cells #[.int .i64 a1_0, .int .i64 a1_1] 29 (0, 0))) ∧ AsC (Below w.heap.size w w'))
 case atStart => exact ⟨(0), (by first | rfl | (simp; done) | (simp [*]; done)), H', ⟨Nat.le_refl _⟩, ⟨b_ BK259⟩, ⟨hB_ w⟩⟩
 case round =>
  clear H'; try clear c1; try clear p2
  obtain ⟨x5_1, rfl, HA, HK1, BK259, HB⟩ := hrel
  cases gk with
  | zero => exact absurd HA.out (by simp [tallystickref19_Find.l0])
  | succ k1 =>
   have H := HA.out; clear HA
   simp only [tallystickref19_Find.l0] at H
   by_cases c4 : x5_1 < (l0.length : Int)
   ·rw [if_pos c4] at H
    have c4b0 : decide (x5_1 < (l0.length : Int)) = true := decide_eq_true c4
    clear c4
    by_cases c5 : 0 ≤ x5_1
    ·rw [if_pos c5] at H
     have c5b0 : decide (0 ≤ x5_1) = true := decide_eq_true c5
     clear c5
     by_cases c6 : (((rd_T41 l0 x5_1).f0.f0) == a1_0 && (((rd_T41 l0 x5_1).f0.f1) == a1_1)) = true
     ·rw [if_pos c6] at H
      have c6b0 : (((rd_T41 l0 x5_1).f0.f0) == a1_0 && (((rd_T41 l0 x5_1).f0.f1) == a1_1)) = true := c6
      (try (have c6b1 : decide (((rd_T41 l0 x5_1).f0.f0) = a1_0 && (((rd_T41 l0 x5_1).f0.f1) == a1_1)) = true := by simpa using c6))
      (try (have c6b2 : (((rd_T41 l0 x5_1).f0.f0) == a1_0 && (((rd_T41 l0 x5_1).f0.f1) == a1_1)) = true := by simpa using c6))
      clear c6
      obtain rfl := Option.some.inj H
      have p260 : 0 ≤ (x5_1 : Int) := of_decide_eq_true (by first | (with_reducible assumption) | assumption)
      have q260 : x5_1 < (l0.length : Int) := of_decide_eq_true (by first | (with_reducible assumption) | assumption)
      obtain ⟨ad260, A260_2, c260_2, A260_3, c260_3, A260_4, c260_4, e260, hx260_0, hx260_1, hx260_2, hx260_3, hx260_4, hx260_5, hl260_2, hi260_2, hl260_3, hi260_3, hl260_4, hi260_4⟩ := at_T41 HR0.out x5_1 p260 q260
      cases e260
      replace hx260_0 := (HB.out.cell (World.block_lt_of_cell? w _ hx260_0)).trans hx260_0
      replace hx260_1 := (HB.out.cell (World.block_lt_of_cell? w _ hx260_1)).trans hx260_1
      replace hx260_2 := (HB.out.cell (World.block_lt_of_cell? w _ hx260_2)).trans hx260_2
      replace hx260_3 := (HB.out.cell (World.block_lt_of_cell? w _ hx260_3)).trans hx260_3
      replace hx260_4 := (HB.out.cell (World.block_lt_of_cell? w _ hx260_4)).trans hx260_4
      replace hx260_5 := (HB.out.cell (World.block_lt_of_cell? w _ hx260_5)).trans hx260_5
      have HR260_2 := A_ hi260_2; have HC260_2 := A_ hl260_2; clear hi260_2 hl260_2; have HR260_3 := A_ hi260_3; have HC260_3 := A_ hl260_3; clear hi260_3 hl260_3; have HR260_4 := A_ hi260_4; have HC260_4 := A_ hl260_4; clear hi260_4 hl260_4
      replace p260 := eq_true p260
      replace q260 := eq_true q260
      obtain ⟨hcz7_0, hcz7_1, hfz7_0, hfz7_1⟩ := cf2_ BK259
      go_wp2
      repeat (go_quiet (fail); try go_wp2)
      go_ret
      exact ⟨by first | rfl | (simp [errW_none, errW_some] <;> rfl) | (simp [*, errW_none, errW_some] <;> rfl), hB_ w⟩
     rw [if_neg c6] at H
     have c6b0 : (((rd_T41 l0 x5_1).f0.f0) == a1_0 && (((rd_T41 l0 x5_1).f0.f1) == a1_1)) = false := by simpa using c6
     (try (have c6b1 : decide (((rd_T41 l0 x5_1).f0.f0) = a1_0 && (((rd_T41 l0 x5_1).f0.f1) == a1_1)) = false := by simpa using c6))
     (try (have c6b2 : (((rd_T41 l0 x5_1).f0.f0) == a1_0 && (((rd_T41 l0 x5_1).f0.f1) == a1_1)) = false := by simpa using c6))
     (try (have c6b3 : ¬ (((rd_T41 l0 x5_1).f0.f0) = a1_0 && (((rd_T41 l0 x5_1).f0.f1) == a1_1)) := by simpa using c6))
     clear c6
     have H' := A_ H
     clear H
     have p260 : 0 ≤ (x5_1 : Int) := of_decide_eq_true (by first | (with_reducible assumption) | assumption)
     have q260 : x5_1 < (l0.length : Int) := of_decide_eq_true (by first | (with_reducible assumption) | assumption)
     obtain ⟨ad260, A260_2, c260_2, A260_3, c260_3, A260_4, c260_4, e260, hx260_0, hx260_1, hx260_2, hx260_3, hx260_4, hx260_5, hl260_2, hi260_2, hl260_3, hi260_3, hl260_4, hi260_4⟩ := at_T41 HR0.out x5_1 p260 q260
     cases e260
     replace hx260_0 := (HB.out.cell (World.block_lt_of_cell? w _ hx260_0)).trans hx260_0
     replace hx260_1 := (HB.out.cell (World.block_lt_of_cell? w _ hx260_1)).trans hx260_1
     replace hx260_2 := (HB.out.cell (World.block_lt_of_cell? w _ hx260_2)).trans hx260_2
     replace hx260_3 := (HB.out.cell (World.block_lt_of_cell? w _ hx260_3)).trans hx260_3
     replace hx260_4 := (HB.out.cell (World.block_lt_of_cell? w _ hx260_4)).trans hx260_4
     replace hx260_5 := (HB.out.cell (World.block_lt_of_cell? w _ hx260_5)).trans hx260_5
     have HR260_2 := A_ hi260_2; have HC260_2 := A_ hl260_2; clear hi260_2 hl260_2; have HR260_3 := A_ hi260_3; have HC260_3 := A_ hl260_3; clear hi260_3 hl260_3; have HR260_4 := A_ hi260_4; have HC260_4 := A_ hl260_4; clear hi260_4 hl260_4
     replace p260 := eq_true p260
     replace q260 := eq_true q260
     obtain ⟨hcz8_0, hcz8_1, hfz8_0, hfz8_1⟩ := cf2_ BK259
     go_wp2
     repeat (go_quiet (fail); try go_wp2)
     go_roundg k1
     case measure => have := HK1.out; omega
     case rel => exact ⟨(wrap64 (x5_1 + 1)), (by first | rfl | (simp; done) | (simp [*]; done)), H', ⟨by have := HK1.out; omega⟩, ⟨b_ BK259⟩, ⟨hB_ w⟩⟩
    rw [if_neg c5] at H
    exact absurd H (by simp)
   rw [if_neg c4] at H
   have c4b0 : decide (x5_1 < (l0.length : Int)) = false := decide_eq_false c4
   clear c4
   obtain rfl := Option.some.inj H
   go_wp2
   repeat (go_quiet (fail); try go_wp2)
   go_ret
   exact ⟨by first | rfl | (simp [errW_none, errW_some] <;> rfl) | (simp [*, errW_none, errW_some] <;> rfl), hB_ w⟩

end Go.Proofs.Ytbpobnlkfpjijaa.Pr
end
-- Gm
section
namespace Go.Proofs.Ytbpobnlkfpjijaa.Pr
open Go.ChangeMaps (setBlock heap_setBlock_same heap_setBlock_other)
open Go.RowKit Go.Proofs.YtbpobnlkfpjijaaW.PrintWords Go.Proofs.YtbpobnlkfpjijaaW.PrintLast Go.Proofs.YtbpobnlkfpjijaaW.PrintMore
set_option linter.unusedVariables false
set_option linter.unusedSimpArgs false
attribute [local go_sem] Go.Proofs.Aid.cell_set_row
def keyV (q : Int × Int) : Value := .agg #[.int .i64 q.1, .int .i64 q.2]
theorem equal29 (w : World) (p q : Int × Int) : (Op.equal 29 (keyV p) (keyV q)).run Try.prog w = .ok (p == q) w := by
  have := eqA29 9998 w p.1 q.1 p.2 q.2
  exact this
theorem findAsking_run (w : World) (q : Int × Int) : ∀ (es : List MapEntry) (rs : List (Int × Int)) (i : Nat), es.map (·.key) = rs.map keyV →
    ∃ o : Option (Nat × Value), (Instr.findAsking 29 (keyV q) es i).run Try.prog w = .ok o w ∧ (o.isSome = true ↔ q ∈ rs) ∧ ∀ j v, o = some (j, v) → ∃ e ∈ es, e.val = v
  | [], [], i, _ => ⟨none, rfl, by simp, by simp⟩
  | [], _ :: _, _, h => by simp at h
  | _ :: _, [], _, h => by simp at h
  | e :: es, r :: rs, i, h => by
    simp only [List.map_cons, List.cons.injEq] at h
    obtain ⟨hk, ht⟩ := h
    obtain ⟨o, ho, hi, hv⟩ := findAsking_run w q es rs (i + 1) ht
    unfold Instr.findAsking
    rw [hk]
    simp only [Sem.run_bind, equal29, Result.andThen_ok]
    by_cases hq : q = r
    · subst hq
      rw [if_pos (by simp)]
      exact ⟨some (i, e.val), rfl, by simp, fun j v h => by cases h; exact ⟨e, by simp, rfl⟩⟩
    · rw [if_neg (by simpa using hq)]
      refine ⟨o, ho, by rw [hi]; simp [hq], fun j v h => ?_⟩
      obtain ⟨e', he, hev⟩ := hv j v h
      exact ⟨e', by simp [he], hev⟩
theorem findKey_run (w : World) (q : Int × Int) (es : List MapEntry) (rs : List (Int × Int)) (h : es.map (·.key) = rs.map keyV) :
    ∃ o : Option (Nat × Value), (Instr.findKey 29 (keyV q) es).run Try.prog w = .ok o w ∧ (o.isSome = true ↔ q ∈ rs) ∧ ∀ j v, o = some (j, v) → ∃ e ∈ es, e.val = v := by
  cases es with
  | nil =>
    cases rs with
    | nil => exact ⟨none, by simp [Instr.findKey, Instr.findNow, Try.underlying29, go_sem], by simp, by simp⟩
    | cons r rs => simp at h
  | cons e es =>
    cases rs with
    | nil => simp at h
    | cons r rs =>
      obtain ⟨o, ho, hi⟩ := findAsking_run w q (e :: es) (r :: rs) 0 h
      refine ⟨o, ?_, hi⟩
      have hk : e.key = keyV r := by simp at h; exact h.1
      have hs : Instr.findNow (TypeDesc.struct #[{ name := "From", type := 3, offset := 0, embedded := false, tag := "", pkgPath := "", byteOffset := 0 }, { name := "To", type := 3, offset := 1, embedded := false, tag := "", pkgPath := "", byteOffset := 8 }]) (keyV q) (e :: es) 0 = none := by
        simp [Instr.findNow, hk, Instr.sameNow, keyV]
      unfold Instr.findKey
      simp only [Sem.run_bind, run_underlying Try.underlying29 w, Result.andThen_ok, hs]
      exact ho
theorem checkInt_run (w : World) (b : Bool) (n : Nat) (x : Int) : (Instr.checkKey b (n + 1) 3 (.int .i64 x)).run Try.prog w = .ok () w := by
  unfold Instr.checkKey
  simp only [Sem.run_bind, run_underlying Try.underlying3 w, Result.andThen_ok]
  rfl
theorem checkKey_run (w : World) (b : Bool) (q : Int × Int) : (Instr.checkKey b 10000 29 (keyV q)).run Try.prog w = .ok () w := by
  show (Instr.checkKey b (9999 + 1) 29 (keyV q)).run Try.prog w = .ok () w
  unfold Instr.checkKey
  simp only [Sem.run_bind, run_underlying Try.underlying29 w, Result.andThen_ok, keyV]
  have h1 : (Instr.checkKey b 9999 3 (.int .i64 q.1)).run Try.prog w = .ok () w := checkInt_run w b 9998 q.1
  have h2 : (Instr.checkKey b 9999 3 (.int .i64 q.2)).run Try.prog w = .ok () w := checkInt_run w b 9998 q.2
  simp [part, isAgg, go_sem, Try.underlying3, h1, h2]
/-- A part as a value: six cells. -/
def partV (v : Value) : Prop := ∃ (a b : Int) (A : Option Addr) (n c : Nat) (A' : Option Addr) (n' c' : Nat) (A'' : Option Addr) (n'' c'' : Nat) (m : Bool),
  v = .agg #[.int .i64 a, .int .i64 b, .slice A n c, .slice A' n' c', .slice A'' n'' c'', .bool m]
/-- A table: its keys are the ranges rs, each one once or more. -/
def Tab (W : World) (b : Nat) (rs : List (Int × Int)) : Prop :=
  ∃ es clock, W.heap[b]? = some (.map es clock) ∧ es.toList.map (·.key) = rs.map keyV ∧ ∀ e ∈ es.toList, partV e.val
theorem zero41 (w : World) : ∃ z, (zeroValue 41).run Try.prog w = .ok z w ∧ partV z := by
  refine ⟨.agg #[.int .i64 0, .int .i64 0, .slice none 0 0, .slice none 0 0, .slice none 0 0, .bool false], ?_, ⟨_, _, _, _, _, _, _, _, _, _, _, _, rfl⟩⟩
  exact Try.zeroValue41 w
theorem Tab.lookup {W : World} {b : Nat} {rs : List (Int × Int)} (h : Tab W b rs) (q : Int × Int) :
    ∃ v, partV v ∧ (Instr.lookup 80 (.map (some b)) (keyV q) true).run Try.prog W = .ok (.tuple #[v, .bool (decide (q ∈ rs))]) W := by
  obtain ⟨es, clock, hb, hk, hv⟩ := h
  obtain ⟨o, ho, hi, hval⟩ := findKey_run W q es.toList rs hk
  obtain ⟨z, hz, hzp⟩ := zero41 W
  have hc := checkKey_run W es.isEmpty q
  cases o with
  | none =>
    have hn : decide (q ∈ rs) = false := decide_eq_false (fun h => by simpa using hi.2 h)
    rw [hn]
    refine ⟨z, hzp, ?_⟩
    unfold Instr.lookup
    simp only [Sem.run_bind, run_underlying Try.underlying80 W, Result.andThen_ok]
    simp [MapKept.run_getObj_map hb, hc, ho, hz, Result.andThen]
  | some p =>
    obtain ⟨j, v⟩ := p
    have hn : decide (q ∈ rs) = true := decide_eq_true (hi.1 rfl)
    rw [hn]
    obtain ⟨e, he, rfl⟩ := hval j v rfl
    refine ⟨e.val, hv e he, ?_⟩
    unfold Instr.lookup
    simp only [Sem.run_bind, run_underlying Try.underlying80 W, Result.andThen_ok]
    simp [MapKept.run_getObj_map hb, hc, ho, Result.andThen]
theorem Tab.update {W : World} {b : Nat} {rs : List (Int × Int)} (h : Tab W b rs) (q : Int × Int) (hq : q ∉ rs) {v : Value} (hpv : partV v) :
    ∃ W', (Instr.mapUpdate 80 (.map (some b)) (keyV q) v).run Try.prog W = .ok () W' ∧ Tab W' b (rs ++ [q]) ∧ W.grownBy W' (some b) := by
  obtain ⟨es, clock, hb, hk, hv⟩ := h
  obtain ⟨o, ho, hi, hval⟩ := findKey_run W q es.toList rs hk
  have hc := checkKey_run W false q
  cases o with
  | some p => exact absurd (hi.1 rfl) hq
  | none =>
    refine ⟨setBlock W b (.map (es.push { key := keyV q, val := v, born := clock }) (clock + 1)), ?_, ⟨es.push { key := keyV q, val := v, born := clock }, clock + 1, heap_setBlock_same hb _, by simp [hk], fun e he => ?_⟩, ⟨rfl, rfl, rfl, by simp [setBlock], fun i _ hi => heap_setBlock_other hb _ (fun e => hi (by rw [e]))⟩⟩
    · unfold Instr.mapUpdate
      simp only [Sem.run_bind, run_underlying Try.underlying80 W, Result.andThen_ok]
      simp [MapKept.run_getObj_map hb, hc, ho, MapKept.run_setObj_map _ hb, Result.andThen, setBlock]
    · simp only [Array.toList_push, List.mem_append, List.mem_singleton] at he
      rcases he with he | rfl
      · exact hv e he
      · exact hpv
theorem Tab.kept {W W' : World} {b : Nat} {rs : List (Int × Int)} {row : Option Nat} (h : Tab W b rs) (hg : W.grownBy W' row) (hne : some b ≠ row) : Tab W' b rs := by
  obtain ⟨es, clock, hb, hk, hv⟩ := h
  exact ⟨es, clock, (hg.block b (Array.getElem?_eq_some_iff.1 hb).1 hne).trans hb, hk, hv⟩
theorem Tab.lt {W : World} {b : Nat} {rs : List (Int × Int)} (h : Tab W b rs) : b < W.heap.size := by
  obtain ⟨es, clock, hb, _⟩ := h
  exact (Array.getElem?_eq_some_iff.1 hb).1
theorem Tab.alloc {W : World} {b : Nat} {rs : List (Int × Int)} (h : Tab W b rs) (o : Obj) : Tab (W.alloc o) b rs := h.kept (World.grownBy_alloc W o none) (by simp)
theorem Tab.made (W : World) : Tab (W.alloc (.map #[] 0)) W.heap.size [] := ⟨#[], 0, (MapKept.heap_alloc W _).1, rfl, by simp⟩
section
variable {P : Program} {ops : Array Oper} {rest : List Oper} {o : Oper} {a : Act} {Q : Exit → Act → World → Prop}
theorem wpList_lookup29 (W : World) (hg : o.guard = none) (m x : Operand) (hop : o.op = Op.lookup 80 m x true) (b : Nat) (rs : List (Int × Int)) (hm : a.eval m = .map (some b)) (h : Tab W b rs) (q : Int × Int) (hx : a.eval x = keyV q)
    (hK : ∀ v, partV v → wpList Try.prog ops Q rest (a.put o.dst (.tuple #[v, .bool (decide (q ∈ rs))])) W) : wpList Try.prog ops Q (o :: rest) a W := by
  refine wpList_plain hg fun K' hK' => ?_
  obtain ⟨v, hv, hrun⟩ := h.lookup q
  unfold Oper.wp
  simp [execOp, hop, hm, hx, hrun, Result.andThen]
  exact hK' _ _ (hK v hv)
theorem wpList_update29 (W : World) (hg : o.guard = none) (m x y : Operand) (hop : o.op = Op.mapUpdate 80 m x y) (b : Nat) (rs : List (Int × Int)) (hm : a.eval m = .map (some b)) (h : Tab W b rs) (q : Int × Int) (hq : q ∉ rs) (hx : a.eval x = keyV q) (hy : partV (a.eval y))
    (hK : ∀ W', Tab W' b (rs ++ [q]) → W.grownBy W' (some b) → wpList Try.prog ops Q rest (a.put o.dst undef) W') : wpList Try.prog ops Q (o :: rest) a W := by
  refine wpList_plain hg fun K' hK' => ?_
  obtain ⟨W', hrun, h1, h2⟩ := h.update q hq hy
  unfold Oper.wp
  simp [execOp, hop, hm, hx, hrun, Result.andThen]
  exact hK' _ _ (hK W' h1 h2)
end
def keyOf41 (x : S41) : Int × Int := (x.f0.f0, x.f0.f1)
theorem take_mem_succ (l : List S41) (k : Nat) (h : k < l.length) (q : Int × Int) : (∃ x ∈ l.take (k + 1), keyOf41 x = q) ↔ (∃ x ∈ l.take k, keyOf41 x = q) ∨ keyOf41 (rd_T41 l (k : Int)) = q := by
  rw [List.take_succ_eq_append_getElem h]
  have e : rd_T41 l (k : Int) = l[k] := by simp [rd_T41, List.getD_eq_getElem?_getD, List.getElem?_eq_getElem h]
  rw [e]
  simp only [List.mem_append, List.mem_singleton]
  constructor
  · rintro ⟨x, hx | rfl, hq⟩
    · exact .inl ⟨x, hx, hq⟩
    · exact .inr hq
  · rintro (⟨x, hx, hq⟩ | hq)
    · exact ⟨x, .inl hx, hq⟩
    · exact ⟨_, .inr rfl, hq⟩
set_option maxRecDepth 100000 in
set_option maxHeartbeats 4000000 in
theorem table_calls (A : Option Addr) (c : Nat) (l : List S41) (w : World) (hC : Kd.C k41 w A l.length l) :
    Calls Try.prog 39 #[.slice A l.length c] w fun e w' => ∃ b rs, e = .returned (.map (some b)) ∧ Tab w' b rs ∧ (∀ q, q ∈ rs ↔ ∃ x ∈ l, keyOf41 x = q) ∧ w.heap.size ≤ b ∧ Below w.heap.size w w' := by
  have hm : l.length ≤ 9223372036854775807 := hC.2.1
  have HC := Lib.hid hC
  clear hC
  go_enter Try.func39, Try.ntmps39
  have hmm := @run_makeMap Try.prog
  go_wp2
  clear hmm
  have HT0 := Lib.hid (Tab.made w)
  have HB0 := Lib.hid (below_alloc (Below.refl w.heap.size w) (.map #[] 0))
  go_loopw [11] (fun i wr => ∃ (k : Nat) (rs : List (Int × Int)), k ≤ l.length ∧ i = .int .i64 k ∧ Hid (Tab wr w.heap.size rs) ∧ Hid (∀ q, q ∈ rs ↔ ∃ x ∈ l.take k, keyOf41 x = q) ∧ Hid (Below w.heap.size w wr)) (fun i _ => l.length - (intOf i).toNat)
  case atStart => exact ⟨0, [], Nat.zero_le _, rfl, HT0, by simp [Hid], HB0⟩
  case round =>
    obtain ⟨k, rs, hk, rfl, HT, HQ, HB⟩ := hrel
    clear HT0 HB0
    by_cases hlt : k < l.length
    · obtain ⟨ad, A2, c2, A3, c3, A4, c4, rfl, h0, h1, h2, h3, h4, h5, _⟩ := at_T41 HC.out (k : Int) (by omega) (by omega)
      rw [Int.toNat_natCast] at h0 h1 h2 h3 h4 h5
      replace h0 := (HB.out.cell (World.block_lt_of_cell? w _ h0)).trans h0
      replace h1 := (HB.out.cell (World.block_lt_of_cell? w _ h1)).trans h1
      replace h2 := (HB.out.cell (World.block_lt_of_cell? w _ h2)).trans h2
      replace h3 := (HB.out.cell (World.block_lt_of_cell? w _ h3)).trans h3
      replace h4 := (HB.out.cell (World.block_lt_of_cell? w _ h4)).trans h4
      replace h5 := (HB.out.cell (World.block_lt_of_cell? w _ h5)).trans h5
      obtain ⟨x, hx⟩ : ∃ x, rd_T41 l (k : Int) = x := ⟨_, rfl⟩
      rw [hx] at h0 h1 h2 h3 h4 h5
      have HX := Lib.hid hx
      clear hx
      have HT1 := Lib.hid (HT.out.alloc (.cells #[.int .i64 x.f0.f0, .int .i64 x.f0.f1, .slice A2 x.f1.length c2, .slice A3 x.f2.length c3, .slice A4 x.f3.length c4, .bool x.f4] 41))
      have hk1 : ∀ q, (∃ y ∈ l.take (k + 1), keyOf41 y = q) ↔ q ∈ rs ∨ keyOf41 x = q := fun q => by rw [take_mem_succ l k hlt q, HX.out, HQ.out q]
      have HK1 := Lib.hid hk1
      clear hk1
      by_cases hq : keyOf41 x ∈ rs
      · have hq1 : decide (keyOf41 x ∈ rs) = true := decide_eq_true hq
        have HQ0 := Lib.hid hq
        clear hq
        go_wp2_with ((with_reducible refine gate_dst (N := 19) rfl ?_); refine wpList_lookup29 _ rfl _ _ rfl w.heap.size rs rfl HT1.out (keyOf41 x) rfl ?_; rintro v ⟨z1, z2, Z1, n1, m1, Z2, n2, m2, Z3, n3, m3, zb, rfl⟩)
        go_roundw
        case rel => exact ⟨k + 1, rs, by omega, by simp, (HT1.out.alloc _), fun q => by rw [HK1.out q]; exact ⟨.inl, fun h => h.elim id (fun e => e ▸ HQ0.out)⟩, below_alloc (below_alloc HB.out _) _⟩
        case measure => simp [intOf]; omega
      · have hq1 : decide (keyOf41 x ∈ rs) = false := decide_eq_false hq
        have HQ0 := Lib.hid hq
        clear hq
        go_wp2_with (first | ((with_reducible refine gate_dst (N := 19) rfl ?_); refine wpList_lookup29 _ rfl _ _ rfl w.heap.size rs rfl HT1.out (keyOf41 x) rfl ?_; rintro v ⟨z1, z2, Z1, n1, m1, Z2, n2, m2, Z3, n3, m3, zb, rfl⟩) | (at_mapUpdate; refine wpList_update29 _ rfl _ _ _ rfl w.heap.size rs rfl (HT1.out.alloc _) (keyOf41 x) HQ0.out rfl ⟨_, _, _, _, _, _, _, _, _, _, _, _, rfl⟩ ?_; intro W' hT3 hg; have HT3 := Lib.hid hT3; have HG := Lib.hid hg; clear hT3 hg))
        go_roundw
        case rel => exact ⟨k + 1, rs ++ [keyOf41 x], by omega, by simp, HT3.out, fun q => by rw [HK1.out q, List.mem_append, List.mem_singleton]; exact ⟨fun h => h.elim .inl (fun e => .inr e.symm), fun h => h.elim .inl (fun e => .inr e.symm)⟩, (below_alloc (below_alloc HB.out _) _).grown HG.out (by simp; have := HB.out.size; omega) (fun j e => by cases e; exact Nat.le_refl _)⟩
        case measure => simp [intOf]; omega
    · obtain rfl : k = l.length := by omega
      go_wp2
      go_ret
      exact ⟨w.heap.size, rs, rfl, HT.out, by simpa using HQ.out, Nat.le_refl _, HB.out⟩
set_option maxHeartbeats 2000000 in
theorem there_calls (b : Nat) (rs : List (Int × Int)) (q : Int × Int) (Bt : Nat) (w : World) (hBt : w.cell? ⟨Bt, 0, none⟩ = some (.map (some b))) (hT : Tab w b rs) :
    Calls Try.prog 40 #[.agg #[.int .i64 q.1, .int .i64 q.2], .pointer (some ⟨Bt, 0, none⟩)] w fun e w' => e = .returned (.bool (decide (q ∈ rs))) ∧ Below w.heap.size w w' := by
  have hlt := World.block_lt_of_cell? w _ hBt
  have hBt2 : (w.alloc (.cells #[.int .i64 q.1, .int .i64 q.2] 29)).cell? ⟨Bt, 0, none⟩ = some (.map (some b)) := by rw [World.cell?_alloc_lt _ _ _ hlt]; exact hBt
  have HT := Lib.hid (hT.alloc (.cells #[.int .i64 q.1, .int .i64 q.2] 29))
  clear hT
  go_enter Try.func40, Try.ntmps40
  go_wp2_with ((with_reducible refine gate_dst (N := 9) rfl ?_); refine wpList_lookup29 _ rfl _ _ rfl b rs rfl HT.out q rfl ?_; rintro v ⟨z1, z2, Z1, n1, m1, Z2, n2, m2, Z3, n3, m3, zb, rfl⟩)
  go_ret
  exact ⟨rfl, below_alloc (below_alloc (Below.refl _ _) _) _⟩
/-- The first piece that no part has. -/
def firstMiss (l : List S41) : List S29 → Int × Int × Bool
  | [] => (0, 0, false)
  | p :: ps => if l.any (fun x => keyOf41 x == (p.f0, p.f1)) = true then firstMiss l ps else (p.f0, p.f1, true)
/-- plan.Missing. -/
def plan_Missing.f (a0_0 : Int) (a0_1 : Int) (a0_2 : Int) (l1 : List (S41)) : Option (Int × Int × Bool) := (plan_Pieces.f 300 a0_0 a0_1 a0_2).bind fun ps => some (firstMiss l1 ps)
theorem rd_drop29 (l : List S29) (k : Nat) (h : k < l.length) : l.drop k = rd_T29 l (k : Int) :: l.drop (k + 1) := by
  rw [List.drop_eq_getElem_cons h]
  simp [rd_T29, List.getD_eq_getElem?_getD, List.getElem?_eq_getElem h]
theorem Tab.below {W W' : World} {b n : Nat} {rs : List (Int × Int)} (h : Tab W b rs) (hb : Below n W W') (hn : b < n) : Tab W' b rs := by
  obtain ⟨es, clock, hb0, hk, hv⟩ := h
  exact ⟨es, clock, (hb.block b hn).trans hb0, hk, hv⟩
set_option maxRecDepth 100000 in
set_option maxHeartbeats 8000000 in
theorem plan_Missing.calls (a0_0 : Int) (a0_1 : Int) (a0_2 : Int) (A1 : Option Addr) (c1 : Nat) (l1 : List (S41)) (r1 : Int) (r2 : Int) (r3 : Bool) (w : World) (hr1 : Kd.C k41 w A1 l1.length l1) (hc1 : l1.length ≤ c1) (h : plan_Missing.f a0_0 a0_1 a0_2 l1 = some (r1, r2, r3)) :
    Calls Try.prog 17 #[.agg #[.int .i64 a0_0, .int .i64 a0_1, .int .i64 a0_2], .slice A1 l1.length c1] w fun e w' => e = .returned (.tuple #[.agg #[.int .i64 r1, .int .i64 r2], .bool r3]) ∧ Below w.heap.size w w' := by
  unfold plan_Missing.f at h
  obtain ⟨ps, hps, h⟩ := Option.bind_eq_some_iff.mp h
  replace h := Option.some.inj h
  have HP := Lib.hid hps
  have HF := Lib.hid h
  have HR := Lib.hid hr1
  clear hps h hr1
  go_enter Try.func17, Try.ntmps17
  go_wp2_with fail
  have hR1 := Kd.C_below HR.out (below_alloc (below_alloc (Below.refl w.heap.size w) (.cells #[.int .i64 a0_0, .int .i64 a0_1, .int .i64 a0_2] 23)) (.cells #[.int .i64 0, .int .i64 0] 29))
  have HR1 := Lib.hid hR1
  clear hR1
  obtain ⟨W1, hW1⟩ : ∃ W1, (w.alloc (.cells #[.int .i64 a0_0, .int .i64 a0_1, .int .i64 a0_2] 23)).alloc (.cells #[.int .i64 0, .int .i64 0] 29) = W1 := ⟨_, rfl⟩
  have hs1 : W1.heap.size = w.heap.size + 2 := by rw [← hW1]; simp
  have hB1 : Below w.heap.size w W1 := by rw [← hW1]; exact below_alloc (below_alloc (Below.refl _ _) _) _
  have hj0 : W1.cell? ⟨w.heap.size, 0, none⟩ = some (.int .i64 a0_0) := by subst hW1; go_simp
  have hj1 : W1.cell? ⟨w.heap.size, 1, none⟩ = some (.int .i64 a0_1) := by subst hW1; go_simp
  have hj2 : W1.cell? ⟨w.heap.size, 2, none⟩ = some (.int .i64 a0_2) := by subst hW1; go_simp
  have ho : W1.heap[w.heap.size + 1]? = some (.cells #[.int .i64 0, .int .i64 0] 29 (0, 0)) := by
    rw [← hW1]
    have := heap_alloc_new (w.alloc (.cells #[.int .i64 a0_0, .int .i64 a0_1, .int .i64 a0_2] 23)) (.cells #[.int .i64 0, .int .i64 0] 29)
    simpa using this
  rw [hW1] at HR1 ⊢
  clear hW1
  go_step3
  go_wp2_with fail
  refine (table_calls A1 c1 l1 W1 HR1.out).mono ?_
  rintro e w2 ⟨b, rs, rfl, hT, hQ, hbs, hb2⟩
  have hb12 : Below w.heap.size w w2 := hB1.trans (hb2.mono hB1.size)
  replace hj0 := (hb2.cell (World.block_lt_of_cell? _ _ hj0)).trans hj0
  replace hj1 := (hb2.cell (World.block_lt_of_cell? _ _ hj1)).trans hj1
  replace hj2 := (hb2.cell (World.block_lt_of_cell? _ _ hj2)).trans hj2
  replace ho := (hb2.block _ (by omega)).trans ho
  have hs2 := hb2.size
  have hT1 := (hT.alloc (.cells #[.map (some b)] 80)).alloc (.cells #[.int .i64 0, .int .i64 0] 29)
  have hbl := hT.lt
  obtain ⟨W3, hW3⟩ : ∃ W3, (w2.alloc (.cells #[.map (some b)] 80)).alloc (.cells #[.int .i64 0, .int .i64 0] 29) = W3 := ⟨_, rfl⟩
  have hs3 : W3.heap.size = w2.heap.size + 2 := by rw [← hW3]; simp
  have hB3 : Below w2.heap.size w2 W3 := by rw [← hW3]; exact below_alloc (below_alloc (Below.refl _ _) _) _
  have hm0 : W3.cell? ⟨w2.heap.size, 0, none⟩ = some (.map (some b)) := by subst hW3; go_simp
  have hu : W3.heap[w2.heap.size + 1]? = some (.cells #[.int .i64 0, .int .i64 0] 29 (0, 0)) := by
    rw [← hW3]
    have := heap_alloc_new (w2.alloc (.cells #[.map (some b)] 80)) (.cells #[.int .i64 0, .int .i64 0] 29)
    simpa using this
  replace hj0 := (hB3.cell (World.block_lt_of_cell? _ _ hj0)).trans hj0
  replace hj1 := (hB3.cell (World.block_lt_of_cell? _ _ hj1)).trans hj1
  replace hj2 := (hB3.cell (World.block_lt_of_cell? _ _ hj2)).trans hj2
  replace ho := (hB3.block _ (by omega)).trans ho
  rw [hW3] at hT1
  have HT := Lib.hid hT1
  have HO := Lib.hid ho
  have HU := Lib.hid hu
  have HB := Lib.hid (hb12.trans (hB3.mono hb12.size))
  have HQ := Lib.hid hQ
  clear hT hT1 ho hu hb12 hQ hB3 hb2
  go_wp2_with fail
  go_step3
  go_wp2_with fail
  refine (plan_Pieces.calls 300 a0_0 a0_1 a0_2 ps _ HP.out).mono ?_
  rintro e w4 ⟨v, rfl, hv, hb4⟩
  obtain ⟨Ap, cp, rfl, hcp, hfp⟩ := hv
  have HC := Lib.hid (Kd.F_now hfp)
  have hmp : ps.length ≤ 9223372036854775807 := (Kd.F_now hfp).2.1
  have hs4 := hb4.size
  have hm4 := (hb4.cell (World.block_lt_of_cell? _ _ hm0)).trans hm0
  have HT4 := Lib.hid (HT.out.below hb4 (by omega))
  have HO4 := Lib.hid ((hb4.block _ (by omega)).trans HO.out)
  have HU4 := Lib.hid ((hb4.block _ (by omega)).trans HU.out)
  have HB4 := Lib.hid (HB.out.trans (hb4.mono HB.out.size))
  have hs5 : w2.heap.size + 2 ≤ w4.heap.size := by omega
  have hs6 : w.heap.size + 2 ≤ w4.heap.size := by omega
  have hb6 : b < w4.heap.size := by omega
  clear hfp hb4 hj0 hj1 hj2 hm0 HT HO HU HB HR1 HR
  go_wp2
  go_loopw [9, 18] (fun f i wr => ∃ (k : Nat), k ≤ ps.length ∧ f = .bool false ∧ i = .int .i64 k ∧ Hid (firstMiss l1 ps = firstMiss l1 (ps.drop k)) ∧ Hid (Below w4.heap.size w4 wr)) (fun _ i _ => ps.length - (intOf i).toNat)
  case atStart => exact ⟨0, Nat.zero_le _, rfl, rfl, rfl, Below.refl _ _⟩
  case round =>
    obtain ⟨k, hk, rfl, rfl, HM, HBr⟩ := hrel
    by_cases hlt : k < ps.length
    · obtain ⟨ad, rfl, h0, h1⟩ := at_T29 HC.out (k : Int) (by omega) (by omega)
      rw [Int.toNat_natCast] at h0 h1
      replace h0 := (HBr.out.cell (World.block_lt_of_cell? _ _ h0)).trans h0
      replace h1 := (HBr.out.cell (World.block_lt_of_cell? _ _ h1)).trans h1
      have hm5 := (HBr.out.cell (World.block_lt_of_cell? _ _ hm4)).trans hm4
      have hd := rd_drop29 ps k hlt
      obtain ⟨x, hx⟩ : ∃ x, rd_T29 ps (k : Int) = x := ⟨_, rfl⟩
      rw [hx] at h0 h1 hd
      have hM1 := HM.out
      rw [hd] at hM1
      have hany : (l1.any (fun y => keyOf41 y == (x.f0, x.f1)) = true) ↔ (x.f0, x.f1) ∈ rs := by
        rw [HQ.out]
        simp
      have HA := Lib.hid hany
      have HM1 := Lib.hid hM1
      have HX := Lib.hid hx
      clear hd hx hM1 hany
      have hsr := HBr.out.size
      have HT5 := Lib.hid ((HT4.out.below HBr.out hb6).alloc (.cells #[.int .i64 x.f0, .int .i64 x.f1] 29))
      have hm6 : (wr.alloc (.cells #[.int .i64 x.f0, .int .i64 x.f1] 29)).cell? ⟨w2.heap.size, 0, none⟩ = some (.map (some b)) := by rw [World.cell?_alloc_lt _ _ _ (by show w2.heap.size < wr.heap.size; omega)]; exact hm5
      go_wp2_with fail
      refine (there_calls b rs (x.f0, x.f1) w2.heap.size _ hm6 HT5.out).mono ?_
      rintro e w7 ⟨rfl, hb7⟩
      have hB7 := below_then (below_alloc HBr.out (.cells #[.int .i64 x.f0, .int .i64 x.f1] 29)) (below_alloc HBr.out (.cells #[.int .i64 x.f0, .int .i64 x.f1] 29)).size hb7
      have hx0 : w7.cell? ⟨wr.heap.size, 0, none⟩ = some (.int .i64 x.f0) := by rw [hb7.cell (p := ⟨wr.heap.size, 0, none⟩) (by simp)]; go_simp
      have hx1 : w7.cell? ⟨wr.heap.size, 1, none⟩ = some (.int .i64 x.f1) := by rw [hb7.cell (p := ⟨wr.heap.size, 1, none⟩) (by simp)]; go_simp
      have HB7 := Lib.hid hB7
      clear hB7 hb7
      by_cases hq : (x.f0, x.f1) ∈ rs
      · have HN := Lib.hid (HM1.out.trans (by unfold firstMiss; rw [if_pos (HA.out.2 hq)]))
        rw [decide_eq_true hq]
        clear hq
        go_wp2
        go_roundw
        case rel => exact ⟨k + 1, by omega, rfl, by simp, HN.out, HB7.out⟩
        case measure => simp [intOf]; omega
      · have hN : firstMiss l1 ps = (x.f0, x.f1, true) := HM1.out.trans (by unfold firstMiss; rw [if_neg (fun h => hq (HA.out.1 h))])
        rw [HF.out] at hN
        simp only [Prod.mk.injEq] at hN
        obtain ⟨rfl, rfl, rfl⟩ := hN
        rw [decide_eq_false hq]
        have hu7 := (HB7.out.block (w2.heap.size + 1) (by omega)).trans HU4.out
        have ho7 := (HB7.out.block (w.heap.size + 1) (by omega)).trans HO4.out
        have u0 : w7.cell? ⟨w2.heap.size + 1, 0, none⟩ = some (.int .i64 0) := by simp [World.cell?, hu7]
        have u1 : w7.cell? ⟨w2.heap.size + 1, 1, none⟩ = some (.int .i64 0) := by simp [World.cell?, hu7]
        have f0 : w7.frozen? ⟨w2.heap.size + 1, 0, none⟩ = false := by simp [World.frozen?, hu7]
        have f1 : w7.frozen? ⟨w2.heap.size + 1, 1, none⟩ = false := by simp [World.frozen?, hu7]
        have o0 : w7.cell? ⟨w.heap.size + 1, 0, none⟩ = some (.int .i64 0) := by simp [World.cell?, ho7]
        have o1 : w7.cell? ⟨w.heap.size + 1, 1, none⟩ = some (.int .i64 0) := by simp [World.cell?, ho7]
        have g0 : w7.frozen? ⟨w.heap.size + 1, 0, none⟩ = false := by simp [World.frozen?, ho7]
        have g1 : w7.frozen? ⟨w.heap.size + 1, 1, none⟩ = false := by simp [World.frozen?, ho7]
        have hne : w2.heap.size + 1 ≠ w.heap.size + 1 := by omega
        have hne2 : w.heap.size + 1 ≠ w2.heap.size + 1 := by omega
        have HBw := Lib.hid (HB4.out.trans (HB7.out.mono HB4.out.size))
        have hsw2 : w.heap.size ≤ w2.heap.size := by omega
        clear hq hu7 ho7
        go_wp2
        rw [Exit.noGoto_ret]
        have hc0 : ((((w7.setCell ⟨w2.heap.size + 1, 0, none⟩ (.int .i64 x.f0)).setCell ⟨w2.heap.size + 1, 1, none⟩ (.int .i64 x.f1)).setCell ⟨w.heap.size + 1, 0, none⟩ (.int .i64 x.f0)).setCell ⟨w.heap.size + 1, 1, none⟩ (.int .i64 x.f1)).cell? ⟨w.heap.size + 1, 0, none⟩ = some (.int .i64 x.f0) := by go_simp
        have hc1 : ((((w7.setCell ⟨w2.heap.size + 1, 0, none⟩ (.int .i64 x.f0)).setCell ⟨w2.heap.size + 1, 1, none⟩ (.int .i64 x.f1)).setCell ⟨w.heap.size + 1, 0, none⟩ (.int .i64 x.f0)).setCell ⟨w.heap.size + 1, 1, none⟩ (.int .i64 x.f1)).cell? ⟨w.heap.size + 1, 1, none⟩ = some (.int .i64 x.f1) := by go_simp
        refine bodyPost_ret (v := .tuple #[.agg #[.int .i64 x.f0, .int .i64 x.f1], .bool true]) (by simp [results, Try.results17, go_sem, hc0, hc1]) rfl ⟨rfl, ?_⟩
        exact (((HBw.out.setCell (p := ⟨w2.heap.size + 1, 0, none⟩) (by show w.heap.size ≤ w2.heap.size + 1; omega) _).setCell (p := ⟨w2.heap.size + 1, 1, none⟩) (by show w.heap.size ≤ w2.heap.size + 1; omega) _).setCell (p := ⟨w.heap.size + 1, 0, none⟩) (by show w.heap.size ≤ w.heap.size + 1; omega) _).setCell (p := ⟨w.heap.size + 1, 1, none⟩) (by show w.heap.size ≤ w.heap.size + 1; omega) _
    · obtain rfl : k = ps.length := by omega
      have hN : firstMiss l1 ps = (0, 0, false) := HM.out.trans (by rw [List.drop_length]; rfl)
      rw [HF.out] at hN
      simp only [Prod.mk.injEq] at hN
      obtain ⟨rfl, rfl, rfl⟩ := hN
      have hu7 := (HBr.out.block (w2.heap.size + 1) (by omega)).trans HU4.out
      have ho7 := (HBr.out.block (w.heap.size + 1) (by omega)).trans HO4.out
      have u0 : wr.cell? ⟨w2.heap.size + 1, 0, none⟩ = some (.int .i64 0) := by simp [World.cell?, hu7]
      have u1 : wr.cell? ⟨w2.heap.size + 1, 1, none⟩ = some (.int .i64 0) := by simp [World.cell?, hu7]
      have o0 : wr.cell? ⟨w.heap.size + 1, 0, none⟩ = some (.int .i64 0) := by simp [World.cell?, ho7]
      have o1 : wr.cell? ⟨w.heap.size + 1, 1, none⟩ = some (.int .i64 0) := by simp [World.cell?, ho7]
      have g0 : wr.frozen? ⟨w.heap.size + 1, 0, none⟩ = false := by simp [World.frozen?, ho7]
      have g1 : wr.frozen? ⟨w.heap.size + 1, 1, none⟩ = false := by simp [World.frozen?, ho7]
      have HBw := Lib.hid (HB4.out.trans (HBr.out.mono HB4.out.size))
      clear hu7 ho7
      go_wp2
      rw [Exit.noGoto_ret]
      have hc0 : ((wr.setCell ⟨w.heap.size + 1, 0, none⟩ (.int .i64 0)).setCell ⟨w.heap.size + 1, 1, none⟩ (.int .i64 0)).cell? ⟨w.heap.size + 1, 0, none⟩ = some (.int .i64 0) := by go_simp
      have hc1 : ((wr.setCell ⟨w.heap.size + 1, 0, none⟩ (.int .i64 0)).setCell ⟨w.heap.size + 1, 1, none⟩ (.int .i64 0)).cell? ⟨w.heap.size + 1, 1, none⟩ = some (.int .i64 0) := by go_simp
      refine bodyPost_ret (v := .tuple #[.agg #[.int .i64 0, .int .i64 0], .bool false]) (by simp [results, Try.results17, go_sem, hc0, hc1]) rfl ⟨rfl, ?_⟩
      exact (HBw.out.setCell (p := ⟨w.heap.size + 1, 0, none⟩) (by show w.heap.size ≤ w.heap.size + 1; omega) _).setCell (p := ⟨w.heap.size + 1, 1, none⟩) (by show w.heap.size ≤ w.heap.size + 1; omega) _
end Go.Proofs.Ytbpobnlkfpjijaa.Pr
end
-- Lo
section
namespace Go.Proofs.Ytbpobnlkfpjijaa.Pr
open Go.RowKit Go.Proofs.YtbpobnlkfpjijaaW.PrintWords Go.Proofs.YtbpobnlkfpjijaaW.PrintLast Go.Proofs.YtbpobnlkfpjijaaW.PrintMore
set_option linter.unusedVariables false
set_option linter.unusedSimpArgs false
/-- Is it an answer without an error, between 2 and 90? -/
def termsFew (x : Option (Int × Int)) : Bool := match x with
  | some (n, e) => decide (e = 0) && decide (2 ≤ n) && decide (n ≤ 90)
  | none => false
set_option maxRecDepth 100000 in
theorem few_a : (List.range 40).all (fun m => termsFew (series_Terms.f 300 1 ((m : Nat) : Int))) = true := by decide +kernel
set_option maxRecDepth 100000 in
theorem few_b : (List.range 40).all (fun m => termsFew (series_Terms.f 300 1 ((m + 40 : Nat) : Int))) = true := by decide +kernel
set_option maxRecDepth 100000 in
theorem few_c : (List.range 41).all (fun m => termsFew (series_Terms.f 300 1 ((m + 80 : Nat) : Int))) = true := by decide +kernel
theorem termsFew_spec {x : Option (Int × Int)} (h : termsFew x = true) : ∃ n, x = some (n, 0) ∧ 2 ≤ n ∧ n ≤ 90 := by
  unfold termsFew at h
  split at h
  · rename_i n e
    simp only [Bool.and_eq_true, decide_eq_true_eq] at h
    obtain ⟨⟨rfl, h1⟩, h2⟩ := h
    exact ⟨n, rfl, h1, h2⟩
  · cases h
theorem few_e (m : Int) (h0 : 0 ≤ m) (h1 : m ≤ 120) : ∃ n, series_Terms.f 300 1 m = some (n, 0) ∧ 2 ≤ n ∧ n ≤ 90 := by
  refine termsFew_spec ?_
  obtain ⟨k, rfl⟩ := Int.eq_ofNat_of_zero_le h0
  by_cases ha : k < 40
  · exact List.all_eq_true.1 few_a k (List.mem_range.2 ha)
  · by_cases hb : k < 80
    · have := List.all_eq_true.1 few_b (k - 40) (List.mem_range.2 (by omega))
      rwa [show k - 40 + 40 = k by omega] at this
    · have := List.all_eq_true.1 few_c (k - 80) (List.mem_range.2 (by omega))
      rwa [show k - 80 + 80 = k by omega] at this
theorem few_pi (m : Int) (h0 : 0 ≤ m) (h1 : m ≤ 120) : ∃ n, series_Terms.f 300 2 m = some (n, 0) ∧ 2 ≤ n ∧ n ≤ 10 := by
  have hq : Int.tdiv m 14 = m / 14 := Int.tdiv_eq_ediv_of_nonneg h0
  refine ⟨m / 14 + 2, ?_, by omega, by omega⟩
  simp [series_Terms.f, series_Terms.j0, series_Terms.j1, show ¬ m < 0 by omega, show ¬ 3000 < m by omega, hq]
  rw [wrapIn (m / 14) (by omega), wrapIn _ (by omega)]
/-- A job's pieces, small as it is: none, or those of so many terms. -/
theorem pieces_few (c d g : Int) (hd : -1000 ≤ d ∧ d ≤ 60) (hg : -1000 ≤ g ∧ g ≤ 60) :
    plan_Pieces.f 300 c d g = some [] ∨ ∃ n, 2 ≤ n ∧ (c = 1 ∧ n ≤ 90 ∨ c = 2 ∧ n ≤ 10) ∧ plan_Pieces.f 300 c d g = some (splitUpto n (splitLen n)) := by
  unfold plan_Pieces.f
  rw [wrapIn _ (by omega)]
  have hs : ∀ n : Int, 2 ≤ n → n ≤ 1000 → series_Split.f 0 n 8 = some (splitUpto n (splitLen n)) := fun n h1 h2 => by
    unfold series_Split.f
    rw [if_pos ⟨rfl, rfl, by omega, h2⟩]
  by_cases hc : c = 1 ∨ c = 2
  · by_cases hm : d + g < 0
    · rw [terms_low c _ hm hc]
      exact .inl rfl
    · have : ∃ n, series_Terms.f 300 c (d + g) = some (n, 0) ∧ 2 ≤ n ∧ (c = 1 ∧ n ≤ 90 ∨ c = 2 ∧ n ≤ 10) := by
        rcases hc with rfl | rfl
        · obtain ⟨n, h1, h2, h3⟩ := few_e (d + g) (by omega) (by omega)
          exact ⟨n, h1, h2, .inl ⟨rfl, h3⟩⟩
        · obtain ⟨n, h1, h2, h3⟩ := few_pi (d + g) (by omega) (by omega)
          exact ⟨n, h1, h2, .inr ⟨rfl, h3⟩⟩
      obtain ⟨n, hn, h1, h2⟩ := this
      rw [hn, Option.bind_some]
      refine .inr ⟨n, h1, h2, ?_⟩
      rw [if_pos rfl, hs n h1 (by rcases h2 with h2 | h2 <;> omega), Option.bind_some]
  · rw [terms_none c _ (fun h => hc (.inl h)) (fun h => hc (.inr h))]
    exact .inl rfl
/-- What is missing first. -/
theorem firstMiss_spec (l : List S41) : ∀ ps : List S29, firstMiss l ps = (0, 0, false) ∨ ∃ (j : Nat) (h : j < ps.length), firstMiss l ps = (ps[j].f0, ps[j].f1, true) ∧ (∀ i (hi : i < j), ∃ x ∈ l, keyOf41 x = (ps[i].f0, ps[i].f1)) ∧ ∀ x ∈ l, keyOf41 x ≠ (ps[j].f0, ps[j].f1)
  | [] => .inl rfl
  | p :: ps => by
    unfold firstMiss
    by_cases hp : l.any (fun x => keyOf41 x == (p.f0, p.f1)) = true
    · rw [if_pos hp]
      rcases firstMiss_spec l ps with h | ⟨j, hj, h, ha, hb⟩
      · exact .inl h
      · refine .inr ⟨j + 1, by simpa using hj, by simpa using h, fun i hi => ?_, by simpa using hb⟩
        cases i with
        | zero =>
          obtain ⟨x, hx, he⟩ := List.any_eq_true.1 hp
          exact ⟨x, hx, by simpa using he⟩
        | succ i => simpa using ha i (by omega)
    · rw [if_neg hp]
      refine .inr ⟨0, by simp, rfl, fun i hi => by omega, fun x hx he => hp (List.any_eq_true.2 ⟨x, hx, by simpa using he⟩)⟩
theorem find_none (l : List S41) (hl : l.length ≤ 60) (a b : Int) (h : ∀ x ∈ l, keyOf41 x ≠ (a, b)) : ∀ (d i k : Nat), i + d = l.length → d < k → tallystickref19_Find.l0 k l (i : Int) a b = some (-1)
  | d, i, 0, _, hk => by omega
  | 0, i, k + 1, hi, _ => by
    unfold tallystickref19_Find.l0
    rw [if_neg (by omega)]
  | d + 1, i, k + 1, hi, hk => by
    have ih := find_none l hl a b h d (i + 1) k (by omega) (by omega)
    have hw : wrap64 ((i : Int) + 1) = ((i + 1 : Nat) : Int) := by rw [wrapIn _ (by omega)]; omega
    have hlt : i < l.length := by omega
    have he : rd_T41 l (i : Int) = l[i] := by simp [rd_T41, List.getD_eq_getElem?_getD, List.getElem?_eq_getElem hlt]
    have hn := h _ (List.getElem_mem hlt)
    unfold tallystickref19_Find.l0
    rw [if_pos (by omega), if_pos (by omega), he, if_neg (fun hc => hn (by simpa [keyOf41] using hc)), hw]
    exact ih
theorem may_step (k : Nat) (i : Int) (h0 : 0 ≤ i) (h3 : i < 3) (a b : Int) (P Q T : List Int) (m : Bool) : tallystickref17_May.l0 (k + 1) i a b P Q T m = some false ∨ tallystickref17_May.l0 (k + 1) i a b P Q T m = tallystickref17_May.l0 k (i + 1) a b P Q T m := by
  have hw : wrap64 (i + 1) = i + 1 := wrapIn _ (by omega)
  obtain ⟨R, hR⟩ : ∃ R, tallystickref17_May.l0 k (i + 1) a b P Q T m = R := ⟨_, rfl⟩
  rw [hR]
  unfold tallystickref17_May.l0
  rw [if_pos h3, Option.bind_some, if_pos h0, if_pos (by simpa using h3), hw]
  generalize rd_L1 [P, Q, T] i = x
  by_cases h1 : (x.length : Int) > 60
  · rw [if_pos h1]; exact .inl rfl
  · rw [if_neg h1]
    by_cases h2 : (x.length : Int) > 0
    · have hv : wrap64 ((x.length : Int) - 1) = (x.length : Int) - 1 := wrapIn _ (by omega)
      rw [if_pos h2, hv, if_pos (by omega), if_pos (by omega)]
      split
      · exact .inl rfl
      · exact .inr hR
    · rw [if_neg h2]; exact .inr hR
theorem may_total (k : Nat) (a b : Int) (P Q T : List Int) (m : Bool) : ∃ c, tallystickref17_May.f (k + 4) a b P Q T m = some c := by
  unfold tallystickref17_May.f
  rcases may_step (k + 3) 0 (by omega) (by omega) a b P Q T m with h | h
  · exact ⟨_, h⟩
  · rw [h]
    rcases may_step (k + 2) (0 + 1) (by omega) (by omega) a b P Q T m with h | h
    · exact ⟨_, h⟩
    · rw [h]
      rcases may_step (k + 1) (0 + 1 + 1) (by omega) (by omega) a b P Q T m with h | h
      · exact ⟨_, h⟩
      · rw [h]
        exact ⟨true, by simp [tallystickref17_May.l0]⟩
theorem small_l0 (l : List S41) (hl : l.length ≤ 60) : ∀ (d i k : Nat), i + d = l.length → d + 10 < k → ∃ b, tallystickref19_Small.l0 k l (i : Int) = some b
  | d, i, 0, _, hk => by omega
  | 0, i, k + 1, hi, _ => by
    refine ⟨true, ?_⟩
    unfold tallystickref19_Small.l0
    rw [if_neg (by omega)]
  | d + 1, i, k + 1, hi, hk => by
    obtain ⟨b, ih⟩ := small_l0 l hl d (i + 1) k (by omega) (by omega)
    have hw : wrap64 ((i : Int) + 1) = ((i + 1 : Nat) : Int) := by rw [wrapIn _ (by omega)]; omega
    unfold tallystickref19_Small.l0
    rw [if_pos (by omega), if_pos (by omega)]
    obtain ⟨k', rfl⟩ : ∃ k', k = k' + 4 := ⟨k - 4, by omega⟩
    obtain ⟨c, hc⟩ := may_total k' ((rd_T41 l (i : Int)).f0.f0) ((rd_T41 l (i : Int)).f0.f1) ((rd_T41 l (i : Int)).f1) ((rd_T41 l (i : Int)).f2) ((rd_T41 l (i : Int)).f3) ((rd_T41 l (i : Int)).f4)
    rw [hc, Option.bind_some, hw]
    cases c with
    | true => exact ⟨b, by rw [if_pos rfl]; exact ih⟩
    | false => exact ⟨false, by rw [if_neg (by decide)]⟩
theorem small_total (a0 a1 a2 : Int) (l : List S41) : ∃ b, tallystickref19_Small.f 300 a0 a1 a2 l = some b ∧ (b = true → -1000 ≤ a1 ∧ a1 ≤ 60 ∧ -1000 ≤ a2 ∧ a2 ≤ 60 ∧ l.length ≤ 60) := by
  have hj : tallystickref19_Small.j0 300 l true = some false := by simp [tallystickref19_Small.j0]
  unfold tallystickref19_Small.f
  by_cases h1 : a1 < -1000
  · exact ⟨false, by rw [if_pos h1, hj], by simp⟩
  · by_cases h2 : a1 > 60
    · exact ⟨false, by rw [if_neg h1, if_pos h2, hj], by simp⟩
    · by_cases h3 : a2 < -1000
      · exact ⟨false, by rw [if_neg h1, if_neg h2, if_pos h3, hj], by simp⟩
      · by_cases h4 : a2 > 60
        · exact ⟨false, by rw [if_neg h1, if_neg h2, if_neg h3, if_pos h4, hj], by simp⟩
        · by_cases h5 : (l.length : Int) > 60
          · exact ⟨false, by rw [if_neg h1, if_neg h2, if_neg h3, if_neg h4, decide_eq_true h5, hj], by simp⟩
          · obtain ⟨b, hb⟩ := small_l0 l (by omega) l.length 0 299 (by omega) (by omega)
            refine ⟨b, ?_, fun _ => ⟨by omega, by omega, by omega, by omega, by omega⟩⟩
            rw [if_neg h1, if_neg h2, if_neg h3, if_neg h4, decide_eq_false h5]
            have : tallystickref19_Small.j0 (299 + 1) l false = tallystickref19_Small.l0 299 l 0 := by rw [tallystickref19_Small.j0, if_neg (by decide)]
            exact this.trans hb
end Go.Proofs.Ytbpobnlkfpjijaa.Pr
end
-- Pr43
section
namespace Go.Proofs.Ytbpobnlkfpjijaa.Pr
open Go.RowKit Go.Proofs.YtbpobnlkfpjijaaW.PrintWords Go.Proofs.YtbpobnlkfpjijaaW.PrintLast Go.Proofs.YtbpobnlkfpjijaaW.PrintMore
attribute [local go_sem] max2_int min2_int max_two min_two max_three min_three max_four min_four   -- for this text's walks alone
set_option linter.unusedVariables false
set_option linter.unusedSimpArgs false

attribute [local go_sem] Go.Proofs.Aid.cell_set_row
def tallystickref04_Trim.l0 : Nat → List Int → Int → Option (List Int)
 | 0, _, _ => none
 | k + 1, x0, x3 => if x3 > 0 then (if 0 ≤ (wrap64 (x3 - 1)) then (if (wrap64 (x3 - 1)) < (x0.length : Int) then (if (rd x0 (wrap64 (x3 - 1))) = 0 then (tallystickref04_Trim.l0 k x0 (wrap64 (x3 - 1))) else ((some (([] : List Int) : List Int)).bind fun y262 => (if 0 ≤ x3 then (if x3 ≤ (x0.length : Int) then (if y262.length + (x0.take (x3 : Int).toNat).length < 17592186044416 then (some (y262 ++ (x0.take (x3 : Int).toNat))) else (none)) else (none)) else (none)))) else (none)) else (none)) else ((some (([] : List Int) : List Int)).bind fun y269 => (if 0 ≤ x3 then (if x3 ≤ (x0.length : Int) then (if y269.length + (x0.take (x3 : Int).toNat).length < 17592186044416 then (some (y269 ++ (x0.take (x3 : Int).toNat))) else (none)) else (none)) else (none)))
def tallystickref04_Trim.f (k : Nat) (l0 : List Int) : Option (List Int) := tallystickref04_Trim.l0 k l0 (l0.length : Int)
theorem tallystickref04_Trim.mono_l : ∀ k, (∀ y0 y1, LeO (tallystickref04_Trim.l0 k y0 y1) (tallystickref04_Trim.l0 (k + 1) y0 y1))
 | 0 => fun _ _ r h => by simp [tallystickref04_Trim.l0] at h
 | k + 1 => by
  have ih0 := tallystickref04_Trim.mono_l k
  intro y0 y1
  unfold tallystickref04_Trim.l0
  repeat' first
  | (with_reducible exact ih0 _ _)
  | (with_reducible exact LeO.refl _)
  | (with_reducible exact LeO.none _)
  | (with_reducible refine LeO.ite ?_ ?_)
  | (with_reducible refine LeO.bind ?_ (fun _ => ?_))
  | exact ih0 _ _
  | exact LeO.none _
  | refine LeO.ite ?_ ?_
  | refine LeO.bind ?_ (fun _ => ?_)
theorem tallystickref04_Trim.mono : ∀ a0 k, LeO (tallystickref04_Trim.f k a0) (tallystickref04_Trim.f (k + 1) a0) := by
 intro a0 k
 have ih0 := tallystickref04_Trim.mono_l k
 unfold tallystickref04_Trim.f
 repeat' first
   | (with_reducible exact ih0 _ _)
   | (with_reducible exact LeO.refl _)
   | (with_reducible exact LeO.none _)
   | (with_reducible refine LeO.ite ?_ ?_)
   | (with_reducible refine LeO.bind ?_ (fun _ => ?_))
   | exact ih0 _ _
   | exact LeO.none _
   | refine LeO.ite ?_ ?_
   | refine LeO.bind ?_ (fun _ => ?_)
set_option maxHeartbeats 8000000 in
set_option maxRecDepth 100000 in
theorem tallystickref04_Trim.calls (k : Nat) (A0 : Option Addr) (c0 : Nat) (l0 : List Int) (r : List Int) (w : World) (hr0 : Kd.C (Kd.int .i64) w A0 l0.length l0) (hc0 : l0.length ≤ c0) (h : tallystickref04_Trim.f k l0 = some r) :
  Calls Try.prog 84 #[.slice A0 l0.length c0] w fun e w' => ∃ v0_ : Value, e = .returned (v0_) ∧ Kd.R (Kd.int .i64) 3 w' w.heap.size (fun _ => True) v0_ r ∧ Below w.heap.size w w' := by
 have HR0 := A_ hr0; have HC0 := A_ hc0; clear hr0 hc0; have HB := A_ (Below.refl w.heap.size w)
 have H : (tallystickref04_Trim.l0 k l0 (l0.length : Int)) = some r := h
 clear h
 have H' := A_ H
 clear H
 go_enter Try.func84, Try.ntmps84
 go_wp2
 go_loopg [3] k (fun kq v3 w' => ∃ (x3_1 : Int), v3 = .int .i64 x3_1 ∧ AsC (tallystickref04_Trim.l0 kq l0 x3_1 = some r) ∧ AsC (kq ≤ k) ∧ AsC (Below w.heap.size w w'))
 case atStart => exact ⟨((l0.length : Int)), (by first | rfl | (simp; done) | (simp [*]; done)), H', ⟨Nat.le_refl _⟩, ⟨hB_ w⟩⟩
 case round =>
  clear H'
  obtain ⟨x3_1, rfl, HA, HK1, HB⟩ := hrel
  cases gk with
  | zero => exact absurd HA.out (by simp [tallystickref04_Trim.l0])
  | succ k1 =>
   have H := HA.out; clear HA
   simp only [tallystickref04_Trim.l0] at H
   by_cases c2 : x3_1 > 0
   ·rw [if_pos c2] at H
    have c2b0 : decide (0 < x3_1) = true := decide_eq_true c2
    clear c2
    obtain ⟨ji3, hji3⟩ : ∃ j_ : Int, (wrap64 (x3_1 - 1)) = j_ := ⟨_, rfl⟩
    replace H : (if 0 ≤ (ji3) then (if (ji3) < (l0.length : Int) then (if (rd l0 (ji3)) = 0 then (tallystickref04_Trim.l0 k1 l0 ji3) else ((some (([] : List Int) : List Int)).bind fun y262 => (if 0 ≤ x3_1 then (if x3_1 ≤ (l0.length : Int) then (if y262.length + (l0.take (x3_1 : Int).toNat).length < 17592186044416 then (some (y262 ++ (l0.take (x3_1 : Int).toNat))) else (none)) else (none)) else (none)))) else (none)) else (none)) = some r := by first | (rw [hji3] at H; exact H) | (simp only [hji3] at H ⊢; exact H)
    have hji3w : (IntKind.i64.wrap (x3_1 - 1)) = ji3 := (i64_w _).trans hji3
    by_cases c4 : 0 ≤ (ji3)
    ·rw [if_pos c4] at H
     have c4b0 : decide (0 ≤ (ji3)) = true := decide_eq_true c4
     clear c4
     by_cases c5 : (ji3) < (l0.length : Int)
     ·rw [if_pos c5] at H
      have c5b0 : decide ((ji3) < (l0.length : Int)) = true := decide_eq_true c5
      clear c5
      by_cases c6 : (rd l0 (ji3)) = 0
      ·rw [if_pos c6] at H
       have c6b0 : ((rd l0 (ji3)) == 0) = true := beq_iff_eq.mpr c6
       have c6b1 : ((rd l0 (ji3)) != 0) = false := bne_eq_false_iff_eq.mpr c6
       clear c6
       have H' := A_ H
       clear H
       have p261 : 0 ≤ ((ji3) : Int) := of_decide_eq_true (by first | (with_reducible assumption) | assumption)
       have q261 : (ji3) < (l0.length : Int) := of_decide_eq_true (by first | (with_reducible assumption) | assumption)
       obtain ⟨ad261, e261, hx261_0⟩ := Kd.at_int HR0.out (ji3) p261 q261
       cases e261
       replace hx261_0 := (HB.out.cell (World.block_lt_of_cell? w _ hx261_0)).trans hx261_0
       replace p261 := eq_true p261
       replace q261 := eq_true q261
       go_wp2
       go_roundg k1
       case measure => have := HK1.out; omega
       case rel => exact ⟨(ji3), (by first | rfl | (simp; done) | (simp only [← hji3] <;> (first | rfl | simp)) | (simp [*]; done)), H', ⟨by have := HK1.out; omega⟩, ⟨hB_ w⟩⟩
      rw [if_neg c6] at H
      have c6b0 : ((rd l0 (ji3)) == 0) = false := beq_eq_false_iff_ne.mpr c6
      have c6b1 : ((rd l0 (ji3)) != 0) = true := bne_iff_ne.mpr c6
      obtain ⟨y262, hy262⟩ : ∃ y_ : List Int, y_ = (([] : List Int)) := ⟨_, rfl⟩
      replace H : (if 0 ≤ x3_1 then (if x3_1 ≤ (l0.length : Int) then (if y262.length + (l0.take (x3_1 : Int).toNat).length < 17592186044416 then (some (y262 ++ (l0.take (x3_1 : Int).toNat))) else (none)) else (none)) else (none)) = some r := by first | (rw [hy262]; with_reducible exact H) | (have H2_ := (Option.bind_some _ _).symm.trans H; rw [hy262]; with_reducible exact H2_) | (have H2_ := (Option.bind_some _ _).symm.trans H; with_reducible exact H2_) | with_reducible exact H | (rw [hy262]; exact H) | exact H
      have Ny262 := A_ hy262; clear hy262
      by_cases c7 : 0 ≤ x3_1
      ·rw [if_pos c7] at H
       have c7b0 := eq_true c7
       have c7b1 : decide (0 ≤ x3_1) = true := decide_eq_true c7
       clear c7
       by_cases c8 : x3_1 ≤ (l0.length : Int)
       ·rw [if_pos c8] at H
        have c8b0 := eq_true c8
        have c8b1 : decide (x3_1 ≤ (l0.length : Int)) = true := decide_eq_true c8
        clear c8
        by_cases c9 : y262.length + (l0.take (x3_1 : Int).toNat).length < 17592186044416
        ·rw [if_pos c9] at H
         have LMc9 := A_ c9; clear c9
         obtain ⟨y266, hy266⟩ : ∃ y_ : List Int, y_ = (y262 ++ (l0.take (x3_1 : Int).toNat)) := ⟨_, rfl⟩
         replace H : (some y266) = some r := by first | (rw [hy266]; with_reducible exact H) | (have H2_ := (Option.bind_some _ _).symm.trans H; rw [hy266]; with_reducible exact H2_) | (have H2_ := (Option.bind_some _ _).symm.trans H; with_reducible exact H2_) | with_reducible exact H | (rw [hy266]; exact H) | exact H
         have Ny266 := A_ hy266; clear hy266
         obtain rfl := Option.some.inj H
         have p261 : 0 ≤ ((ji3) : Int) := of_decide_eq_true (by first | (with_reducible assumption) | assumption)
         have q261 : (ji3) < (l0.length : Int) := of_decide_eq_true (by first | (with_reducible assumption) | assumption)
         obtain ⟨ad261, e261, hx261_0⟩ := Kd.at_int HR0.out (ji3) p261 q261
         cases e261
         replace hx261_0 := (HB.out.cell (World.block_lt_of_cell? w _ hx261_0)).trans hx261_0
         replace p261 := eq_true p261
         replace q261 := eq_true q261
         go_wp2_with (first | ((with_reducible refine gate_dst (N := 18) rfl ?_); refine Kd.R_lit (Kd.int .i64) _ 3 ?hg (N := 18) ?hd (xs := ([] : List Int)) (inner := []) (ok := fun _ => True) (okp := fun _ => True) ?hr ?hp (fun _ hk => hk) trivial (Below.refl _ _) (Nat.le_refl _) (by simp) ?_; (case hd => rfl); (case hg => rfl); (case hr => first | (go_simp; done) | (go_simp; rfl)); (case hp => exact (Reps.none _ _)); intro v263 w10 ho11 hb hg_ hnew_; clear hg_ hnew_; (first | rw [← Ny262.out] at ho11 | (simp only [Int.reduceToNat] at ho11; rw [← Ny262.out] at ho11)); have HO264 := A_ (Kd.R_lower ho11 (below_size (hB_ w))); replace HB := A_ (below_step (hB_ w) hb); clear hb ho11; obtain ⟨i012, hi012, _, hsz12, _⟩ := info_parts info3; obtain ⟨hcut12, hA12, hC12⟩ := print_take_of (P := Try.prog) (Value.int .i64) 0 110 3 .i64 Try.underlying110 hi012 hsz12 (some ad261) c0 l0 x3_1 (of_decide_eq_true (by first | (with_reducible assumption) | assumption)) (of_decide_eq_true (by first | (with_reducible assumption) | assumption)) HC0.out; have HR265 := A_ (Kd.C_of_reads (h1 := fun _ => rfl) (hA12 _ (Kd.reads_of_C HR0.out))); have HC265 := A_ hC12; clear hA12 hC12 hi012 hsz12) | ((with_reducible refine gate_builtin (b := .append) (xs := #[.tmp 18, .tmp 21]) rfl ?_); at_builtin; refine Kd.R_append_rows (Kd.int .i64) (w0 := w) w.heap.size rfl (.tmp 18) (.tmp 21) 110 3 (.int .i64 0) 8 rfl Try.underlying110 info3 rfl (by decide) (by omega) v263 y262 (l0.take (x3_1 : Int).toNat) _ _ _ (fun _ => True) (fun _ => False) rfl rfl ?aO ?aR (fun _ _ h => h) (fun _ h => h.elim) ?aF ?aB ?aS ?aL ?_; (case aR => first | (refine Go.Proofs.Aid.readsRow_len (show (l0.take (x3_1 : Int).toNat).length = x3_1.toNat from (by rw [List.length_take]; have h_ : (x3_1 : Int) ≤ (l0.length : Int) := of_decide_eq_true (by first | (with_reducible assumption) | assumption); omega)) ?_; repeat (first | exact (Kd.C_below HR265.out HB.out) | (with_reducible refine Kd.C_alloc ?_ _) | (with_reducible refine Kd.C_drewN ?_ _) | (with_reducible refine Kd.C_drew ?_))) | (rw [← show (l0.take (x3_1 : Int).toNat).length = x3_1.toNat from (by rw [List.length_take]; have h_ : (x3_1 : Int) ≤ (l0.length : Int) := of_decide_eq_true (by first | (with_reducible assumption) | assumption); omega)]; repeat (first | exact (Kd.C_below HR265.out HB.out) | (with_reducible refine Kd.C_alloc ?_ _) | (with_reducible refine Kd.C_drewN ?_ _) | (with_reducible refine Kd.C_drew ?_))) | (repeat (first | exact (Kd.C_below HR265.out HB.out) | (with_reducible refine Kd.C_alloc ?_ _) | (with_reducible refine Kd.C_drewN ?_ _) | (with_reducible refine Kd.C_drew ?_)))); (case aB => exact (hB_ w)); (case aF => exact (fun _ _ => trivial)); (case aO => exact (r_ HO264)); (case aS => exact (below_size (hB_ w))); (case aL => have := LMc9.out; have hlx_ := (show (l0.take (x3_1 : Int).toNat).length = x3_1.toNat from (by rw [List.length_take]; have h_ : (x3_1 : Int) ≤ (l0.length : Int) := of_decide_eq_true (by first | (with_reducible assumption) | assumption); omega)); omega); intro v267 w13 ho hb hg hat; rw [← Ny266.out] at ho; replace HB := A_ hb; have HO268 := A_ ho; clear HO264; clear ho hb hg hat))
         go_ret
         exact ⟨_, by first | rfl | (simp [errW_none, errW_some] <;> rfl) | (simp only [← hji3]; first | rfl | (simp [errW_none, errW_some] <;> rfl)) | (simp [*, errW_none, errW_some] <;> rfl), by (with_reducible repeat (first|apply rA_|apply rN_|apply rD_)); exact HO268.out, hB_ w⟩
        rw [if_neg c9] at H
        exact absurd H (by simp)
       rw [if_neg c8] at H
       exact absurd H (by simp)
      rw [if_neg c7] at H
      exact absurd H (by simp)
     rw [if_neg c5] at H
     exact absurd H (by simp)
    rw [if_neg c4] at H
    exact absurd H (by simp)
   rw [if_neg c2] at H
   have c2b0 : decide (0 < x3_1) = false := decide_eq_false c2
   clear c2
   obtain ⟨y269, hy269⟩ : ∃ y_ : List Int, y_ = (([] : List Int)) := ⟨_, rfl⟩
   replace H : (if 0 ≤ x3_1 then (if x3_1 ≤ (l0.length : Int) then (if y269.length + (l0.take (x3_1 : Int).toNat).length < 17592186044416 then (some (y269 ++ (l0.take (x3_1 : Int).toNat))) else (none)) else (none)) else (none)) = some r := by first | (rw [hy269]; with_reducible exact H) | (have H2_ := (Option.bind_some _ _).symm.trans H; rw [hy269]; with_reducible exact H2_) | (have H2_ := (Option.bind_some _ _).symm.trans H; with_reducible exact H2_) | with_reducible exact H | (rw [hy269]; exact H) | exact H
   have Ny269 := A_ hy269; clear hy269
   by_cases c14 : 0 ≤ x3_1
   ·rw [if_pos c14] at H
    have c14b0 := eq_true c14
    have c14b1 : decide (0 ≤ x3_1) = true := decide_eq_true c14
    clear c14
    by_cases c15 : x3_1 ≤ (l0.length : Int)
    ·rw [if_pos c15] at H
     have c15b0 := eq_true c15
     have c15b1 : decide (x3_1 ≤ (l0.length : Int)) = true := decide_eq_true c15
     clear c15
     by_cases c16 : y269.length + (l0.take (x3_1 : Int).toNat).length < 17592186044416
     ·rw [if_pos c16] at H
      have LMc16 := A_ c16; clear c16
      obtain ⟨y273, hy273⟩ : ∃ y_ : List Int, y_ = (y269 ++ (l0.take (x3_1 : Int).toNat)) := ⟨_, rfl⟩
      replace H : (some y273) = some r := by first | (rw [hy273]; with_reducible exact H) | (have H2_ := (Option.bind_some _ _).symm.trans H; rw [hy273]; with_reducible exact H2_) | (have H2_ := (Option.bind_some _ _).symm.trans H; with_reducible exact H2_) | with_reducible exact H | (rw [hy273]; exact H) | exact H
      have Ny273 := A_ hy273; clear hy273
      obtain rfl := Option.some.inj H
      go_wp2_with (first | ((with_reducible refine gate_dst (N := 18) rfl ?_); refine Kd.R_lit (Kd.int .i64) _ 3 ?hg (N := 18) ?hd (xs := ([] : List Int)) (inner := []) (ok := fun _ => True) (okp := fun _ => True) ?hr ?hp (fun _ hk => hk) trivial (Below.refl _ _) (Nat.le_refl _) (by simp) ?_; (case hd => rfl); (case hg => rfl); (case hr => first | (go_simp; done) | (go_simp; rfl)); (case hp => exact (Reps.none _ _)); intro v270 w17 ho18 hb hg_ hnew_; clear hg_ hnew_; (first | rw [← Ny269.out] at ho18 | (simp only [Int.reduceToNat] at ho18; rw [← Ny269.out] at ho18)); have HO271 := A_ (Kd.R_lower ho18 (below_size (hB_ w))); replace HB := A_ (below_step (hB_ w) hb); clear hb ho18; obtain ⟨i019, hi019, _, hsz19, _⟩ := info_parts info3; obtain ⟨hcut19, hA19, hC19⟩ := print_take_of (P := Try.prog) (Value.int .i64) 0 110 3 .i64 Try.underlying110 hi019 hsz19 A0 c0 l0 x3_1 (of_decide_eq_true (by first | (with_reducible assumption) | assumption)) (of_decide_eq_true (by first | (with_reducible assumption) | assumption)) HC0.out; have HR272 := A_ (Kd.C_of_reads (h1 := fun _ => rfl) (hA19 _ (Kd.reads_of_C HR0.out))); have HC272 := A_ hC19; clear hA19 hC19 hi019 hsz19) | ((with_reducible refine gate_builtin (b := .append) (xs := #[.tmp 18, .tmp 21]) rfl ?_); at_builtin; refine Kd.R_append_rows (Kd.int .i64) (w0 := w) w.heap.size rfl (.tmp 18) (.tmp 21) 110 3 (.int .i64 0) 8 rfl Try.underlying110 info3 rfl (by decide) (by omega) v270 y269 (l0.take (x3_1 : Int).toNat) _ _ _ (fun _ => True) (fun _ => False) rfl rfl ?aO ?aR (fun _ _ h => h) (fun _ h => h.elim) ?aF ?aB ?aS ?aL ?_; (case aR => first | (refine Go.Proofs.Aid.readsRow_len (show (l0.take (x3_1 : Int).toNat).length = x3_1.toNat from (by rw [List.length_take]; have h_ : (x3_1 : Int) ≤ (l0.length : Int) := of_decide_eq_true (by first | (with_reducible assumption) | assumption); omega)) ?_; repeat (first | exact (Kd.C_below HR272.out HB.out) | (with_reducible refine Kd.C_alloc ?_ _) | (with_reducible refine Kd.C_drewN ?_ _) | (with_reducible refine Kd.C_drew ?_))) | (rw [← show (l0.take (x3_1 : Int).toNat).length = x3_1.toNat from (by rw [List.length_take]; have h_ : (x3_1 : Int) ≤ (l0.length : Int) := of_decide_eq_true (by first | (with_reducible assumption) | assumption); omega)]; repeat (first | exact (Kd.C_below HR272.out HB.out) | (with_reducible refine Kd.C_alloc ?_ _) | (with_reducible refine Kd.C_drewN ?_ _) | (with_reducible refine Kd.C_drew ?_))) | (repeat (first | exact (Kd.C_below HR272.out HB.out) | (with_reducible refine Kd.C_alloc ?_ _) | (with_reducible refine Kd.C_drewN ?_ _) | (with_reducible refine Kd.C_drew ?_)))); (case aB => exact (hB_ w)); (case aF => exact (fun _ _ => trivial)); (case aO => exact (r_ HO271)); (case aS => exact (below_size (hB_ w))); (case aL => have := LMc16.out; have hlx_ := (show (l0.take (x3_1 : Int).toNat).length = x3_1.toNat from (by rw [List.length_take]; have h_ : (x3_1 : Int) ≤ (l0.length : Int) := of_decide_eq_true (by first | (with_reducible assumption) | assumption); omega)); omega); intro v274 w20 ho hb hg hat; rw [← Ny273.out] at ho; replace HB := A_ hb; have HO275 := A_ ho; clear HO271; clear ho hb hg hat))
      go_ret
      exact ⟨_, by first | rfl | (simp [errW_none, errW_some] <;> rfl) | (simp [*, errW_none, errW_some] <;> rfl), by (with_reducible repeat (first|apply rA_|apply rN_|apply rD_)); exact HO275.out, hB_ w⟩
     rw [if_neg c16] at H
     exact absurd H (by simp)
    rw [if_neg c15] at H
    exact absurd H (by simp)
   rw [if_neg c14] at H
   exact absurd H (by simp)

end Go.Proofs.Ytbpobnlkfpjijaa.Pr
end
-- Pr44
section
namespace Go.Proofs.Ytbpobnlkfpjijaa.Pr
open Go.RowKit Go.Proofs.YtbpobnlkfpjijaaW.PrintWords Go.Proofs.YtbpobnlkfpjijaaW.PrintLast Go.Proofs.YtbpobnlkfpjijaaW.PrintMore
attribute [local go_sem] max2_int min2_int max_two min_two max_three min_three max_four min_four   -- for this text's walks alone
set_option linter.unusedVariables false
set_option linter.unusedSimpArgs false

attribute [local go_sem] Go.Proofs.Aid.cell_set_row
mutual
def tallystickref04_Digits.l0 : Nat → List Int → List Int → Int → Option (List Int)
 | 0, _, _, _ => none
 | k + 1, x0, x3, x4 => if x4 < (x0.length : Int) then (if 0 ≤ x4 then (tallystickref04_Digits.l1 k x0 x3 x4 (rd x0 x4) 0) else (none)) else ((tallystickref04_Trim.f k x3).bind fun t276 => (some t276))
def tallystickref04_Digits.l1 : Nat → List Int → List Int → Int → Int → Int → Option (List Int)
 | 0, _, _, _, _, _ => none
 | k + 1, x0, x3, x4, x5, x6 => if x6 < 4 then (if x3.length < 17592186044416 then (tallystickref04_Digits.l1 k x0 (x3 ++ [wrap64 (Int.tmod x5 65536)]) x4 (IntKind.u64.wrap (Int.tdiv x5 65536)) (wrap64 (x6 + 1))) else (none)) else (tallystickref04_Digits.l0 k x0 x3 (wrap64 (x4 + 1)))
end
def tallystickref04_Digits.f (k : Nat) (l0 : List Int) : Option (List Int) := tallystickref04_Digits.l0 k l0 ([] : List Int) 0
theorem tallystickref04_Digits.mono_l : ∀ k, (∀ y0 y1 y2, LeO (tallystickref04_Digits.l0 k y0 y1 y2) (tallystickref04_Digits.l0 (k + 1) y0 y1 y2)) ∧ (∀ y0 y1 y2 y3 y4, LeO (tallystickref04_Digits.l1 k y0 y1 y2 y3 y4) (tallystickref04_Digits.l1 (k + 1) y0 y1 y2 y3 y4))
 | 0 => ⟨fun _ _ _ r h => by simp [tallystickref04_Digits.l0] at h, fun _ _ _ _ _ r h => by simp [tallystickref04_Digits.l1] at h⟩
 | k + 1 => by
  obtain ⟨ih0, ih1⟩ := tallystickref04_Digits.mono_l k
  refine ⟨?_, ?_⟩
  ·intro y0 y1 y2
   unfold tallystickref04_Digits.l0
   repeat' first
   | (with_reducible exact ih0 _ _ _)
   | (with_reducible exact ih1 _ _ _ _ _)
   | (with_reducible exact tallystickref04_Trim.mono _ _)
   | (with_reducible exact LeO.refl _)
   | (with_reducible exact LeO.none _)
   | (with_reducible refine LeO.ite ?_ ?_)
   | (with_reducible refine LeO.bind ?_ (fun _ => ?_))
   | exact ih0 _ _ _
   | exact ih1 _ _ _ _ _
   | exact tallystickref04_Trim.mono _ _
   | exact LeO.none _
   | refine LeO.ite ?_ ?_
   | refine LeO.bind ?_ (fun _ => ?_)
  intro y0 y1 y2 y3 y4
  unfold tallystickref04_Digits.l1
  repeat' first
  | (with_reducible exact ih0 _ _ _)
  | (with_reducible exact ih1 _ _ _ _ _)
  | (with_reducible exact tallystickref04_Trim.mono _ _)
  | (with_reducible exact LeO.refl _)
  | (with_reducible exact LeO.none _)
  | (with_reducible refine LeO.ite ?_ ?_)
  | (with_reducible refine LeO.bind ?_ (fun _ => ?_))
  | exact ih0 _ _ _
  | exact ih1 _ _ _ _ _
  | exact tallystickref04_Trim.mono _ _
  | exact LeO.none _
  | refine LeO.ite ?_ ?_
  | refine LeO.bind ?_ (fun _ => ?_)
theorem tallystickref04_Digits.mono : ∀ a0 k, LeO (tallystickref04_Digits.f k a0) (tallystickref04_Digits.f (k + 1) a0) := by
 intro a0 k
 obtain ⟨ih0, ih1⟩ := tallystickref04_Digits.mono_l k
 unfold tallystickref04_Digits.f
 repeat' first
   | (with_reducible exact ih0 _ _ _)
   | (with_reducible exact ih1 _ _ _ _ _)
   | (with_reducible exact tallystickref04_Trim.mono _ _)
   | (with_reducible exact LeO.refl _)
   | (with_reducible exact LeO.none _)
   | (with_reducible refine LeO.ite ?_ ?_)
   | (with_reducible refine LeO.bind ?_ (fun _ => ?_))
   | exact ih0 _ _ _
   | exact ih1 _ _ _ _ _
   | exact tallystickref04_Trim.mono _ _
   | exact LeO.none _
   | refine LeO.ite ?_ ?_
   | refine LeO.bind ?_ (fun _ => ?_)
set_option maxHeartbeats 8000000 in
set_option maxRecDepth 100000 in
theorem tallystickref04_Digits.calls (k : Nat) (A0 : Option Addr) (c0 : Nat) (l0 : List Int) (r : List Int) (w : World) (hr0 : Kd.C (Kd.int .u64) w A0 l0.length l0) (hc0 : l0.length ≤ c0) (h : tallystickref04_Digits.f k l0 = some r) :
  Calls Try.prog 62 #[.slice A0 l0.length c0] w fun e w' => ∃ v0_ : Value, e = .returned (v0_) ∧ Kd.R (Kd.int .i64) 3 w' w.heap.size (fun _ => True) v0_ r ∧ Below w.heap.size w w' := by
 have HR0 := A_ hr0; have HC0 := A_ hc0; clear hr0 hc0; have HB := A_ (Below.refl w.heap.size w)
 have H : (tallystickref04_Digits.l0 k l0 ([] : List Int) 0) = some r := h
 clear h
 have H' := A_ H
 clear H
 go_enter Try.func62, Try.ntmps62
 go_wp2
 go_loopg [3, 4] k (fun kq v3 v4 w' => ∃ (x3_1 : List Int) (x4_1 : Int), v4 = .int .i64 x4_1 ∧ AsC (tallystickref04_Digits.l0 kq l0 x3_1 x4_1 = some r) ∧ AsC (kq ≤ k) ∧ AsC (Kd.R (Kd.int .i64) 3 w' w.heap.size (fun _ => True) v3 x3_1) ∧ AsC (Below w.heap.size w w'))
 case atStart => exact ⟨(([] : List Int)), (0), (by first | rfl | (simp; done) | (simp [*]; done)), H', ⟨Nat.le_refl _⟩, ⟨by first | exact Kd.R_nil _ _ _ _ _ | exact Kd.N_nil _ _ _ _ _ | exact Kd.V_nil _ _ _ _ _ | exact Kd.Q_nil _ _ _ _ _ | exact Kd.S_nil _ _ _ _ _⟩, ⟨hB_ w⟩⟩
 case round =>
  clear H'
  obtain ⟨x3_1, x4_1, rfl, HA, HK1, HO_3, HB⟩ := hrel
  cases gk with
  | zero => exact absurd HA.out (by simp [tallystickref04_Digits.l0])
  | succ k1 =>
   have H := HA.out; clear HA
   simp only [tallystickref04_Digits.l0] at H
   by_cases c2 : x4_1 < (l0.length : Int)
   ·rw [if_pos c2] at H
    have c2b0 : decide (x4_1 < (l0.length : Int)) = true := decide_eq_true c2
    clear c2
    by_cases c3 : 0 ≤ x4_1
    ·rw [if_pos c3] at H
     have c3b0 : decide (0 ≤ x4_1) = true := decide_eq_true c3
     clear c3
     have H' := A_ H
     clear H
     have p279 : 0 ≤ (x4_1 : Int) := of_decide_eq_true (by first | (with_reducible assumption) | assumption)
     have q279 : x4_1 < (l0.length : Int) := of_decide_eq_true (by first | (with_reducible assumption) | assumption)
     obtain ⟨ad279, e279, hx279_0⟩ := Kd.at_int HR0.out x4_1 p279 q279
     cases e279
     replace hx279_0 := (HB.out.cell (World.block_lt_of_cell? w _ hx279_0)).trans hx279_0
     replace p279 := eq_true p279
     replace q279 := eq_true q279
     go_wp2
     go_loopg [3, 5, 6] k1 (fun kq v3 v5 v6 w' => ∃ (x3_2 : List Int) (x5_2 : Int) (x6_2 : Int), v5 = .int .u64 x5_2 ∧ v6 = .int .i64 x6_2 ∧ AsC (tallystickref04_Digits.l1 kq l0 x3_2 x4_1 x5_2 x6_2 = some r) ∧ AsC (kq ≤ k1) ∧ AsC (Kd.R (Kd.int .i64) 3 w' w.heap.size (fun _ => True) v3 x3_2) ∧ AsC (Below w.heap.size w w'))
     case atStart => exact ⟨(x3_1), (rd l0 x4_1), (0), (by first | rfl | (simp; done) | (simp [*]; done)), (by first | rfl | (simp; done) | (simp [*]; done)), H', ⟨Nat.le_refl _⟩, ⟨r_ HO_3⟩, ⟨hB_ w⟩⟩
     case round =>
      clear H'; try clear c2; try clear c2b0; try clear p2; try clear q2; try clear hx2; try clear c3; try clear c3b0; try clear hx279_0; try clear p279; try clear q279
      obtain ⟨x3_2, x5_2, x6_2, rfl, rfl, HA, HK2, HO_3, HB⟩ := hrel
      cases gk with
      | zero => exact absurd HA.out (by simp [tallystickref04_Digits.l1])
      | succ k2 =>
       have H := HA.out; clear HA
       simp only [tallystickref04_Digits.l1] at H
       by_cases c4 : x6_2 < 4
       ·rw [if_pos c4] at H
        have c4b0 : decide (x6_2 < 4) = true := decide_eq_true c4
        clear c4
        by_cases c5 : x3_2.length < 17592186044416
        ·rw [if_pos c5] at H
         have LMc5 := A_ c5; clear c5
         obtain ⟨y280, hy280⟩ : ∃ y_ : List Int, y_ = (x3_2 ++ [wrap64 (Int.tmod x5_2 65536)]) := ⟨_, rfl⟩
         replace H : (tallystickref04_Digits.l1 k2 l0 y280 x4_1 (IntKind.u64.wrap (Int.tdiv x5_2 65536)) (wrap64 (x6_2 + 1))) = some r := by first | (rw [hy280]; with_reducible exact H) | (have H2_ := (Option.bind_some _ _).symm.trans H; rw [hy280]; with_reducible exact H2_) | (have H2_ := (Option.bind_some _ _).symm.trans H; with_reducible exact H2_) | with_reducible exact H | (rw [hy280]; exact H) | exact H
         have Ny280 := A_ hy280; clear hy280
         have H' := A_ H
         clear H
         go_wp2_with (first | ((with_reducible refine gate_builtin (b := .append) (xs := #[.tmp 21, .tmp 25]) rfl ?_); at_builtin; refine Kd.R_append (Kd.int .i64) (w0 := w) w.heap.size rfl (.tmp 21) (.tmp 25) 110 3 (.int .i64 0) 8 rfl Try.underlying110 info3 rfl (by decide) (by omega) u3 x3_2 (wrap64 (Int.tmod x5_2 65536)) [.int .i64 (wrap64 (Int.tmod x5_2 65536))] (fun _ => True) (fun _ => False) rfl rfl ?aP (fun _ hk => hk.elim) ?aF ?aO ?aB ?aS ?aL ?_; (case aP => exact rfl); (case aB => exact (hB_ w)); (case aF => exact (fun _ _ => trivial)); (case aO => exact (r_ HO_3)); (case aS => exact (below_size (hB_ w))); (case aL => have := LMc5.out; omega); intro v281 w6 ho hb hg hat; rw [← Ny280.out] at ho; replace HB := A_ hb; have HO282 := A_ ho; clear HO_3; clear ho hb hg hat))
         go_roundg k2
         case measure => have := HK1.out; have := HK2.out; omega
         case rel => exact ⟨(y280), (IntKind.u64.wrap (Int.tdiv x5_2 65536)), (wrap64 (x6_2 + 1)), (by first | rfl | (simp; done) | (simp [*]; done)), (by first | rfl | (simp; done) | (simp [*]; done)), H', ⟨by have := HK1.out; have := HK2.out; omega⟩, ⟨r_ HO282⟩, ⟨hB_ w⟩⟩
        rw [if_neg c5] at H
        exact absurd H (by simp)
       rw [if_neg c4] at H
       have c4b0 : decide (x6_2 < 4) = false := decide_eq_false c4
       clear c4
       have H' := A_ H
       clear H
       go_wp2
       go_roundg k2
       case measure => have := HK1.out; have := HK2.out; omega
       case rel => exact ⟨(x3_2), (wrap64 (x4_1 + 1)), (by first | rfl | (simp; done) | (simp [*]; done)), H', ⟨by have := HK1.out; have := HK2.out; omega⟩, ⟨r_ HO_3⟩, ⟨hB_ w⟩⟩
    rw [if_neg c3] at H
    exact absurd H (by simp)
   rw [if_neg c2] at H
   have c2b0 : decide (x4_1 < (l0.length : Int)) = false := decide_eq_false c2
   clear c2
   replace H := Option.bind_eq_some_iff.mp H
   obtain ⟨t276, A70, H⟩ := H
   replace H : (some t276) = some r := H
   have A7 := A_ A70; clear A70
   obtain rfl := Option.some.inj H
   obtain ⟨Ao8, co8, eo8⟩ := Kd.R_slice HO_3.out
   subst eo8
   go_wp2_with (first | ((with_reducible refine gate_callee (f := 84) rfl ?_); refine goesL_ (some 30) rfl rfl Try.func84 (by kernel_rfl) rfl #[.slice Ao8 x3_1.length co8] rfl (by (try simp only [List.map_toArray, List.map_cons, List.map_nil]); first | done | rfl | (simp only [List.length_drop, List.length_take]; rfl)) ?_; (with_reducible refine (tallystickref04_Trim.calls k1 _ _ x3_1 t276 _ ?side1 ?side2 A7.out).mono ?_); (case side1 => repeat (first | exact (Kd.R_reads' HO_3.out).2.2 | (with_reducible refine Kd.C_alloc ?_ _) | (with_reducible refine Kd.C_drewN ?_ _) | (with_reducible refine Kd.C_drew ?_))); (case side2 => exact (Kd.R_reads' HO_3.out).2.1); rintro e w9 ⟨v277, rfl, ho0, hb⟩; refine ⟨_, rfl, ?_⟩; have HO278 := A_ (Kd.R_lower (Kd.R_new' ho0 (Kd.R_lt (r_ HO_3))) (below_size (hB_ w))); replace HO_3 := A_ (Kd.R_elder' (r_ HO_3) (Kd.R_base ho0) hb); replace HB := A_ (below_step (hB_ w) hb); (try clear hb); (try clear hb2); (try clear hk); (try clear hi); (try clear ho0)))
   go_ret
   exact ⟨_, by first | rfl | (simp [errW_none, errW_some] <;> rfl) | (simp [*, errW_none, errW_some] <;> rfl), Kd.R_mono (r_ HO278) (fun _ hk => trivial), hB_ w⟩

end Go.Proofs.Ytbpobnlkfpjijaa.Pr
end
-- Pr45
section
namespace Go.Proofs.Ytbpobnlkfpjijaa.Pr
open Go.RowKit Go.Proofs.YtbpobnlkfpjijaaW.PrintWords Go.Proofs.YtbpobnlkfpjijaaW.PrintLast Go.Proofs.YtbpobnlkfpjijaaW.PrintMore
attribute [local go_sem] max2_int min2_int max_two min_two max_three min_three max_four min_four   -- for this text's walks alone
set_option linter.unusedVariables false
set_option linter.unusedSimpArgs false

attribute [local go_sem] Go.Proofs.Aid.cell_set_row
def tallystickref04_Words.l0 : Nat → List Int → List Int → Int → Option (List Int)
 | 0, _, _, _ => none
 | k + 1, x0, x3, x4 => if x4 ≥ 0 then (if 0 ≤ (wrap64 (Int.tdiv x4 4)) then (if (wrap64 (Int.tdiv x4 4)) < (x3.length : Int) then (if 0 ≤ x4 then (if x4 < (x0.length : Int) then (tallystickref04_Words.l0 k x0 (x3.set ((wrap64 (Int.tdiv x4 4)) : Int).toNat (IntKind.u64.wrap ((IntKind.u64.wrap (65536 * (rd x3 (wrap64 (Int.tdiv x4 4))))) + (IntKind.u64.wrap (rd x0 x4))))) (wrap64 (x4 - 1))) else (none)) else (none)) else (none)) else (none)) else (some x3)
def tallystickref04_Words.f (k : Nat) (l0 : List Int) : Option (List Int) := (tallystickref04_Trim.f k l0).bind fun t283 => (if 0 ≤ (wrap64 (Int.tdiv (wrap64 ((t283.length : Int) + 3)) 4)) then (if (wrap64 (Int.tdiv (wrap64 ((t283.length : Int) + 3)) 4) : Int).toNat ≤ 35184372088832 then (tallystickref04_Words.l0 k t283 (List.replicate (wrap64 (Int.tdiv (wrap64 ((t283.length : Int) + 3)) 4) : Int).toNat 0) (wrap64 ((t283.length : Int) - 1))) else (none)) else (none))
theorem tallystickref04_Words.mono_l : ∀ k, (∀ y0 y1 y2, LeO (tallystickref04_Words.l0 k y0 y1 y2) (tallystickref04_Words.l0 (k + 1) y0 y1 y2))
 | 0 => fun _ _ _ r h => by simp [tallystickref04_Words.l0] at h
 | k + 1 => by
  have ih0 := tallystickref04_Words.mono_l k
  intro y0 y1 y2
  unfold tallystickref04_Words.l0
  repeat' first
  | (with_reducible exact ih0 _ _ _)
  | (with_reducible exact tallystickref04_Trim.mono _ _)
  | (with_reducible exact LeO.refl _)
  | (with_reducible exact LeO.none _)
  | (with_reducible refine LeO.ite ?_ ?_)
  | (with_reducible refine LeO.bind ?_ (fun _ => ?_))
  | exact ih0 _ _ _
  | exact tallystickref04_Trim.mono _ _
  | exact LeO.none _
  | refine LeO.ite ?_ ?_
  | refine LeO.bind ?_ (fun _ => ?_)
theorem tallystickref04_Words.mono : ∀ a0 k, LeO (tallystickref04_Words.f k a0) (tallystickref04_Words.f (k + 1) a0) := by
 intro a0 k
 have ih0 := tallystickref04_Words.mono_l k
 unfold tallystickref04_Words.f
 repeat' first
   | (with_reducible exact ih0 _ _ _)
   | (with_reducible exact tallystickref04_Trim.mono _ _)
   | (with_reducible exact LeO.refl _)
   | (with_reducible exact LeO.none _)
   | (with_reducible refine LeO.ite ?_ ?_)
   | (with_reducible refine LeO.bind ?_ (fun _ => ?_))
   | exact ih0 _ _ _
   | exact tallystickref04_Trim.mono _ _
   | exact LeO.none _
   | refine LeO.ite ?_ ?_
   | refine LeO.bind ?_ (fun _ => ?_)
def tallystickref04_Words.T6 : Bool × List (List Nat × List Nat) := (true, [([], []), ([], []), ([1], [1]), ([], []), ([], []), ([4], [4]), ([3, 5], [3, 5]), ([6], [6]), ([7], [7]), ([], []), ([], []), ([9, 10], [9, 10]), ([11], [11]), ([12], [12]), ([8, 13], [8, 13]), ([0, 2, 0, 1, 2, 3, 4, 5, 6, 7, 8, 9, 10, 11, 12, 13, 14], [0, 2]), ([15, 14, 0, 1, 2, 3, 4, 5, 6, 7, 8, 9, 10, 11, 12, 13, 14], [14, 15])])
def tallystickref04_Words.B6 : List Nat := [0, 0, 2, 0, 0, 16, 56, 120, 248, 0, 0, 1536, 3584, 7680, 16376, 32767, 65535]
theorem tallystickref04_Words.tab6 : rtab .any (opsOf Try.f63 6) = tallystickref04_Words.T6 := by kernel_rfl
theorem tallystickref04_Words.bits6 : waitsOk tallystickref04_Words.T6.2 tallystickref04_Words.B6 = true := by kernel_rfl
set_option maxHeartbeats 8000000 in
set_option maxRecDepth 100000 in
theorem tallystickref04_Words.calls (k : Nat) (A0 : Option Addr) (c0 : Nat) (l0 : List Int) (r : List Int) (w : World) (hr0 : Kd.C (Kd.int .i64) w A0 l0.length l0) (hc0 : l0.length ≤ c0) (h : tallystickref04_Words.f k l0 = some r) :
  Calls Try.prog 63 #[.slice A0 l0.length c0] w fun e w' => ∃ v0_ : Value, e = .returned (v0_) ∧ Kd.R (Kd.int .u64) 57 w' w.heap.size (fun _ => True) v0_ r ∧ Below w.heap.size w w' := by
 have HR0 := A_ hr0; have HC0 := A_ hc0; clear hr0 hc0; have HB := A_ (Below.refl w.heap.size w)
 have H : ((tallystickref04_Trim.f k l0).bind fun t283 => (if 0 ≤ (wrap64 (Int.tdiv (wrap64 ((t283.length : Int) + 3)) 4)) then (if (wrap64 (Int.tdiv (wrap64 ((t283.length : Int) + 3)) 4) : Int).toNat ≤ 35184372088832 then (tallystickref04_Words.l0 k t283 (List.replicate (wrap64 (Int.tdiv (wrap64 ((t283.length : Int) + 3)) 4) : Int).toNat 0) (wrap64 ((t283.length : Int) - 1))) else (none)) else (none))) = some r := h
 clear h
 replace H := Option.bind_eq_some_iff.mp H
 obtain ⟨t283, A20, H⟩ := H
 replace H : (if 0 ≤ (wrap64 (Int.tdiv (wrap64 ((t283.length : Int) + 3)) 4)) then (if (wrap64 (Int.tdiv (wrap64 ((t283.length : Int) + 3)) 4) : Int).toNat ≤ 35184372088832 then (tallystickref04_Words.l0 k t283 (List.replicate (wrap64 (Int.tdiv (wrap64 ((t283.length : Int) + 3)) 4) : Int).toNat 0) (wrap64 ((t283.length : Int) - 1))) else (none)) else (none)) = some r := H
 have A2 := A_ A20; clear A20
 obtain ⟨ji3, hji3⟩ : ∃ j_ : Int, (wrap64 (Int.tdiv (wrap64 ((t283.length : Int) + 3)) 4)) = j_ := ⟨_, rfl⟩
 replace H : (if 0 ≤ (ji3) then (if (ji3 : Int).toNat ≤ 35184372088832 then (tallystickref04_Words.l0 k t283 (List.replicate (ji3 : Int).toNat 0) (wrap64 ((t283.length : Int) - 1))) else (none)) else (none)) = some r := by first | (rw [hji3] at H; exact H) | (simp only [hji3] at H ⊢; exact H)
 (try rw [hji3] at A2)
 have hji3w : (IntKind.i64.wrap (Int.tdiv (wrap64 ((t283.length : Int) + 3)) 4)) = ji3 := (i64_w _).trans hji3
 by_cases c4 : 0 ≤ (ji3)
 ·rw [if_pos c4] at H
  have c4b0 := eq_true c4
  have c4b1 : decide (0 ≤ (ji3)) = true := decide_eq_true c4
  clear c4
  by_cases c5 : (ji3 : Int).toNat ≤ 35184372088832
  ·rw [if_pos c5] at H
   have c5b0 := eq_true c5
   have c5b1 : decide ((ji3 : Int).toNat ≤ 35184372088832) = true := decide_eq_true c5
   clear c5
   obtain ⟨y286, hy286⟩ : ∃ y_ : List Int, y_ = (List.replicate (ji3 : Int).toNat 0) := ⟨_, rfl⟩
   replace H : (tallystickref04_Words.l0 k t283 y286 (wrap64 ((t283.length : Int) - 1))) = some r := by first | (rw [hy286]; with_reducible exact H) | (have H2_ := (Option.bind_some _ _).symm.trans H; rw [hy286]; with_reducible exact H2_) | (have H2_ := (Option.bind_some _ _).symm.trans H; with_reducible exact H2_) | with_reducible exact H | (rw [hy286]; exact H) | exact H
   have Ny286 := A_ hy286; clear hy286
   have H' := A_ H
   clear H
   go_enter Try.func63, Try.ntmps63
   go_wp2_with (first | ((with_reducible refine gate_callee (f := 84) rfl ?_); refine goesL_ (some 6) rfl rfl Try.func84 (by kernel_rfl) rfl #[.slice A0 l0.length c0] rfl (by (try simp only [List.map_toArray, List.map_cons, List.map_nil]); first | done | rfl | (simp only [List.length_drop, List.length_take]; rfl)) ?_; (with_reducible refine (tallystickref04_Trim.calls k _ _ l0 t283 _ ?side1 ?side2 A2.out).mono ?_); (case side1 => repeat (first | exact HR0.out | (with_reducible refine Kd.C_alloc ?_ _) | (with_reducible refine Kd.C_drewN ?_ _) | (with_reducible refine Kd.C_drew ?_))); (case side2 => exact HC0.out); rintro e w6 ⟨v284, rfl, ho0, hb⟩; refine ⟨_, rfl, ?_⟩; have HO285 := A_ (Kd.R_lower ho0 (below_size (hB_ w))); replace HB := A_ (below_step (hB_ w) hb); (try clear hb); (try clear hb2); (try clear hk); (try clear hi); (try clear ho0); obtain ⟨Ao7, co7, eo7⟩ := Kd.R_slice HO285.out; subst eo7) | ((with_reducible refine gate_dst (N := 11) rfl ?_); refine Kd.R_make (Kd.int .u64) _ 57 rfl (N := 11) rfl 39 _ _ rfl ji3 rfl rfl Try.underlying39 (.int .u64 0) 8 info57 rfl (by decide) (by omega) 0 (ok := fun _ => True) (okp := fun _ => True) rfl (fun _ hk => hk) trivial (of_decide_eq_true (by first | (with_reducible assumption) | assumption)) (Nat.le_trans (Nat.mul_le_mul_right _ (of_decide_eq_true (by first | (with_reducible assumption) | assumption) : ji3.toNat ≤ 35184372088832)) (by omega)) (Below.refl _ _) (Nat.le_refl _) ?_; intro v287 w8 ho9 hb hg_ hnew_; clear hg_ hnew_; (first | rw [← Ny286.out] at ho9 | (simp only [Int.reduceToNat] at ho9; rw [← Ny286.out] at ho9)); replace HO285 := A_ (Kd.R_below (r_ HO285) hb); have HO288 := A_ (Kd.R_lower ho9 (below_size (hB_ w))); replace HB := A_ (below_step (hB_ w) hb); clear hb ho9))
   go_loopg [4] k (fun kq v4 w' => ∃ (x3_1 : List Int) (x4_1 : Int), v4 = .int .i64 x4_1 ∧ AsC (tallystickref04_Words.l0 kq t283 x3_1 x4_1 = some r) ∧ AsC (kq ≤ k) ∧ AsC (Kd.R (Kd.int .i64) 3 w' w.heap.size (fun _ => True) (.slice Ao7 t283.length co7) t283) ∧ AsC (Kd.R (Kd.int .u64) 57 w' w.heap.size (fun _ => True) v287 x3_1) ∧ AsC (Below w.heap.size w w'))
   case atStart => exact ⟨(y286), (wrap64 ((t283.length : Int) - 1)), (by first | rfl | (simp; done) | (simp [*]; done)), H', ⟨Nat.le_refl _⟩, ⟨r_ HO285⟩, ⟨r_ HO288⟩, ⟨hB_ w⟩⟩
   case round =>
    clear H'; try clear p2; try clear c4; try clear c4b0; try clear c4b1; try clear c5; try clear c5b0; try clear c5b1; try clear c6; try clear p6; try clear c8
    obtain ⟨x3_1, x4_1, rfl, HA, HK1, HO_0, HO_3, HB⟩ := hrel
    cases gk with
    | zero => exact absurd HA.out (by simp [tallystickref04_Words.l0])
    | succ k1 =>
     have H := HA.out; clear HA
     simp only [tallystickref04_Words.l0] at H
     by_cases c10 : x4_1 ≥ 0
     ·rw [if_pos c10] at H
      have c10b0 : decide (0 ≤ x4_1) = true := decide_eq_true c10
      clear c10
      obtain ⟨ji11, hji11⟩ : ∃ j_ : Int, (wrap64 (Int.tdiv x4_1 4)) = j_ := ⟨_, rfl⟩
      replace H : (if 0 ≤ (ji11) then (if (ji11) < (x3_1.length : Int) then (if 0 ≤ x4_1 then (if x4_1 < (t283.length : Int) then (tallystickref04_Words.l0 k1 t283 (x3_1.set ((ji11) : Int).toNat (IntKind.u64.wrap ((IntKind.u64.wrap (65536 * (rd x3_1 (ji11)))) + (IntKind.u64.wrap (rd t283 x4_1))))) (wrap64 (x4_1 - 1))) else (none)) else (none)) else (none)) else (none)) = some r := by first | (rw [hji11] at H; exact H) | (simp only [hji11] at H ⊢; exact H)
      have hji11w : (IntKind.i64.wrap (Int.tdiv x4_1 4)) = ji11 := (i64_w _).trans hji11
      by_cases c12 : 0 ≤ (ji11)
      ·rw [if_pos c12] at H
       have c12b0 : decide (0 ≤ (ji11)) = true := decide_eq_true c12
       clear c12
       by_cases c13 : (ji11) < (x3_1.length : Int)
       ·rw [if_pos c13] at H
        have c13b0 : decide ((ji11) < (x3_1.length : Int)) = true := decide_eq_true c13
        clear c13
        by_cases c14 : 0 ≤ x4_1
        ·rw [if_pos c14] at H
         have c14b0 : decide (0 ≤ x4_1) = true := decide_eq_true c14
         clear c14
         by_cases c15 : x4_1 < (t283.length : Int)
         ·rw [if_pos c15] at H
          have c15b0 : decide (x4_1 < (t283.length : Int)) = true := decide_eq_true c15
          clear c15
          obtain ⟨y291, hy291⟩ : ∃ y_ : List Int, y_ = (x3_1.set ((ji11) : Int).toNat (IntKind.u64.wrap ((IntKind.u64.wrap (65536 * (rd x3_1 (ji11)))) + (IntKind.u64.wrap (rd t283 x4_1))))) := ⟨_, rfl⟩
          replace H : (tallystickref04_Words.l0 k1 t283 y291 (wrap64 (x4_1 - 1))) = some r := by first | (rw [hy291]; with_reducible exact H) | (have H2_ := (Option.bind_some _ _).symm.trans H; rw [hy291]; with_reducible exact H2_) | (have H2_ := (Option.bind_some _ _).symm.trans H; with_reducible exact H2_) | with_reducible exact H | (rw [hy291]; exact H) | exact H
          have Ny291 := A_ hy291; clear hy291
          have H' := A_ H
          clear H
          try go_wp2
          replace HO_0 := A_ (Kd.R_drew HO_0.out); replace HO_3 := A_ (Kd.R_drew HO_3.out); replace HB := A_ (below_drew1 HB.out)
          obtain ⟨Ao18, co18, eo18⟩ := Kd.R_slice HO_3.out
          (first | subst eo18 | (injection eo18 with f1_ f2_ f3_; have f4_ := f1_.symm; have f5_ := f3_.symm; clear f1_ f2_ f3_; subst f4_; subst f5_))
          have p289 : 0 ≤ ((ji11) : Int) := of_decide_eq_true (by first | (with_reducible assumption) | assumption)
          have q289 : (ji11) < (x3_1.length : Int) := of_decide_eq_true (by first | (with_reducible assumption) | assumption)
          obtain ⟨ad289, e289, hx289_0⟩ := Kd.at_int (Kd.R_reads' HO_3.out).2.2 (ji11) p289 q289
          cases e289
          replace p289 := eq_true p289
          replace q289 := eq_true q289
          have p290 : 0 ≤ (x4_1 : Int) := of_decide_eq_true (by first | (with_reducible assumption) | assumption)
          have q290 : x4_1 < (t283.length : Int) := of_decide_eq_true (by first | (with_reducible assumption) | assumption)
          obtain ⟨ad290, e290, hx290_0⟩ := Kd.at_int (Kd.R_reads' HO_0.out).2.2 x4_1 p290 q290
          cases e290
          replace p290 := eq_true p290
          replace q290 := eq_true q290
          have p16 : 0 ≤ ((ji11) : Int) := of_decide_eq_true (by first | (with_reducible assumption) | assumption)
          have q16 : ((ji11) : Int) < ((x3_1.length : Int) : Int) := of_decide_eq_true (by first | (with_reducible assumption) | assumption)
          obtain ⟨go16, co16, eo16, gb16, gl16, cl16, HG16⟩ := Kd.R_form HO_3.out (by omega)
          (first | cases eo16 | (injection eo16 with ea_ en_ ec_; (first | subst ea_ | (injection ea_ with ea_; subst ea_)); subst ec_; clear en_))
          have GB16 := A_ gb16; have GG16 := A_ HG16; clear gb16 gl16 HG16
          (first | simp only [add_plain] at hx289_0 | skip)
          obtain ⟨hx16_0, hf16_0⟩ := Kd.R_celln 0 HO_3.out ((ji11) : Int) p16 q16
          replace p16 := eq_true p16
          replace q16 := eq_true q16
          have HP19 := Kd.R_putn HO_3.out ((ji11) : Int) (IntKind.u64.wrap ((IntKind.u64.wrap (65536 * (rd x3_1 (ji11)))) + (IntKind.u64.wrap (rd t283 x4_1))))
          rw [← Ny291.out] at HP19
          have HQ19 := A_ HP19; clear HP19
          refine start_ (n := 17) (S := fun w' => w'.cell? ⟨go16, ((ji11)).toNat, none⟩ = some (.int .u64 (rd x3_1 (ji11))) ∧ w'.cell? (ad290.add (x4_1).toNat) = some (.int .i64 (rd t283 x4_1))) (ds := [16]) #[false, false, false, false, false, false, false, false, false, false, false, false, false, false, false, false, false] (by kernel_rfl) rfl rfl ⟨hx289_0, hx290_0⟩ (fun hHeld => ?_); refine with_tabW tallystickref04_Words.tab6 tallystickref04_Words.bits6 (fun HT_ HW_ => ?_)
          generalize wr.drew = w17 at HO_0 HO_3 HB GG16 HQ19 hf16_0 hx16_0 hx289_0 hx290_0 hHeld ⊢
          refine pure_ (i := 0) (N := some 19) (v := ?_) (a' := ?_) #[true, false, false, false, false, false, false, false, false, false, false, false, false, false, false, false, false] rfl rfl (any_of HT_.out (by kernel_rfl)) (fun _ _ _ h => h) (Or.inl ⟨by rfl, ?_⟩) ?_ ?_
          rotate_left
          ·intro w'
           go_simp
           with_reducible rfl
          rotate_left
          ·simp only [Act.put, List.setIfInBounds_toArray, List.set_cons_zero, List.set_cons_succ, i64_w, i32_w]
           rfl
          refine pure_ (i := 1) (N := some 20) (v := ?_) (a' := ?_) #[true, true, false, false, false, false, false, false, false, false, false, false, false, false, false, false, false] rfl rfl (any_of HT_.out (by kernel_rfl)) (fun _ _ _ h => h) (Or.inl ⟨by rfl, ?_⟩) ?_ ?_
          rotate_left
          ·intro w'
           go_simp
           with_reducible rfl
          rotate_left
          ·simp only [Act.put, List.setIfInBounds_toArray, List.set_cons_zero, List.set_cons_succ, i64_w, i32_w]
           rfl
          refine pure_ (i := 2) (N := some 21) (v := ?_) (a' := ?_) #[true, true, true, false, false, false, false, false, false, false, false, false, false, false, false, false, false] rfl rfl (any_of HT_.out (by kernel_rfl)) (fun _ _ _ h => h) (Or.inl ⟨by rfl, ?_⟩) ?_ ?_
          rotate_left
          ·intro w'
           go_simp
           with_reducible rfl
          rotate_left
          ·simp only [Act.put, List.setIfInBounds_toArray, List.set_cons_zero, List.set_cons_succ, i64_w, i32_w]
           rfl
          refine pure_ (i := 3) (N := some 22) (v := ?_) (a' := ?_) #[true, true, true, true, false, false, false, false, false, false, false, false, false, false, false, false, false] rfl rfl (any_of HT_.out (by kernel_rfl)) (fun _ _ _ h => h) (Or.inl ⟨by rfl, ?_⟩) ?_ ?_
          rotate_left
          ·intro w'
           go_simp
           with_reducible rfl
          rotate_left
          ·simp only [Act.put, List.setIfInBounds_toArray, List.set_cons_zero, List.set_cons_succ, i64_w, i32_w]
           rfl
          refine pure_ (i := 4) (N := some 23) (v := ?_) (a' := ?_) #[true, true, true, true, true, false, false, false, false, false, false, false, false, false, false, false, false] rfl rfl (any_of HT_.out (by kernel_rfl)) (fun _ _ _ h => h) (Or.inl ⟨by rfl, ?_⟩) ?_ ?_
          rotate_left
          ·intro w'
           go_simp
           with_reducible rfl
          rotate_left
          ·simp only [Act.put, List.setIfInBounds_toArray, List.set_cons_zero, List.set_cons_succ, i64_w, i32_w]
           rfl
          refine pure_ (i := 5) (N := some 24) (v := ?_) (a' := ?_) #[true, true, true, true, true, true, false, false, false, false, false, false, false, false, false, false, false] rfl rfl (any_of HT_.out (by kernel_rfl)) (fun _ _ _ h => h) (Or.inl ⟨by rfl, ?_⟩) ?_ ?_
          rotate_left
          ·intro w'
           go_simp
           with_reducible rfl
          rotate_left
          ·simp only [Act.put, List.setIfInBounds_toArray, List.set_cons_zero, List.set_cons_succ, i64_w, i32_w]
           rfl
          refine pure_ (i := 6) (N := some 25) (v := ?_) (a' := ?_) #[true, true, true, true, true, true, true, false, false, false, false, false, false, false, false, false, false] rfl rfl (any_of HT_.out (by kernel_rfl)) (fun _ _ _ h => h) (Or.inl ⟨by rfl, ?_⟩) ?_ ?_
          rotate_left
          ·intro w'
           go_simp
           with_reducible rfl
          rotate_left
          ·simp only [Act.put, List.setIfInBounds_toArray, List.set_cons_zero, List.set_cons_succ, i64_w, i32_w]
           rfl
          refine pure_ (i := 9) (N := some 28) (v := ?_) (a' := ?_) #[true, true, true, true, true, true, true, false, false, true, false, false, false, false, false, false, false] rfl rfl (any_of HT_.out (by kernel_rfl)) (fun _ _ _ h => h) (Or.inl ⟨by rfl, ?_⟩) ?_ ?_
          rotate_left
          ·intro w'
           go_simp
           with_reducible rfl
          rotate_left
          ·simp only [Act.put, List.setIfInBounds_toArray, List.set_cons_zero, List.set_cons_succ, i64_w, i32_w]
           rfl
          refine pure_ (i := 10) (N := some 29) (v := ?_) (a' := ?_) #[true, true, true, true, true, true, true, false, false, true, true, false, false, false, false, false, false] rfl rfl (any_of HT_.out (by kernel_rfl)) (fun _ _ _ h => h) (Or.inl ⟨by rfl, ?_⟩) ?_ ?_
          rotate_left
          ·intro w'
           go_simp
           with_reducible rfl
          rotate_left
          ·simp only [Act.put, List.setIfInBounds_toArray, List.set_cons_zero, List.set_cons_succ, i64_w, i32_w]
           rfl
          refine pure_ (i := 11) (N := some 30) (v := ?_) (a' := ?_) #[true, true, true, true, true, true, true, false, false, true, true, true, false, false, false, false, false] rfl rfl (any_of HT_.out (by kernel_rfl)) (fun _ _ _ h => h) (Or.inl ⟨by rfl, ?_⟩) ?_ ?_
          rotate_left
          ·intro w'
           go_simp
           with_reducible rfl
          rotate_left
          ·simp only [Act.put, List.setIfInBounds_toArray, List.set_cons_zero, List.set_cons_succ, i64_w, i32_w]
           rfl
          refine take_ (i := 7) (N := some 26) (v := ?_) (a' := ?_) #[true, true, true, true, true, true, true, true, false, true, true, true, false, false, false, false, false] rfl rfl (take_ofW HT_.out HW_.out (by kernel_rfl)) (fun _ _ _ h => h) (Or.inl ⟨by rfl, ?_⟩) hHeld ?_ ?_
          rotate_left
          ·rintro w' ⟨s0, s1⟩
           go_simp
           with_reducible rfl
          rotate_left
          ·simp only [Act.put, List.setIfInBounds_toArray, List.set_cons_zero, List.set_cons_succ, i64_w, i32_w]
           rfl
          refine pure_ (i := 8) (N := some 27) (v := ?_) (a' := ?_) #[true, true, true, true, true, true, true, true, true, true, true, true, false, false, false, false, false] rfl rfl (any_of HT_.out (by kernel_rfl)) (fun _ _ _ h => h) (Or.inl ⟨by rfl, ?_⟩) ?_ ?_
          rotate_left
          ·intro w'
           go_simp
           with_reducible rfl
          rotate_left
          ·simp only [Act.put, List.setIfInBounds_toArray, List.set_cons_zero, List.set_cons_succ, i64_w, i32_w]
           rfl
          refine take_ (i := 12) (N := some 31) (v := ?_) (a' := ?_) #[true, true, true, true, true, true, true, true, true, true, true, true, true, false, false, false, false] rfl rfl (take_ofW HT_.out HW_.out (by kernel_rfl)) (fun _ _ _ h => h) (Or.inl ⟨by rfl, ?_⟩) hHeld ?_ ?_
          rotate_left
          ·rintro w' ⟨s0, s1⟩
           go_simp
           with_reducible rfl
          rotate_left
          ·simp only [Act.put, List.setIfInBounds_toArray, List.set_cons_zero, List.set_cons_succ, i64_w, i32_w]
           rfl
          refine pure_ (i := 13) (N := some 32) (v := ?_) (a' := ?_) #[true, true, true, true, true, true, true, true, true, true, true, true, true, true, false, false, false] rfl rfl (any_of HT_.out (by kernel_rfl)) (fun _ _ _ h => h) (Or.inl ⟨by rfl, ?_⟩) ?_ ?_
          rotate_left
          ·intro w'
           go_simp
           with_reducible rfl
          rotate_left
          ·simp only [Act.put, List.setIfInBounds_toArray, List.set_cons_zero, List.set_cons_succ, i64_w, i32_w]
           rfl
          refine pure_ (i := 14) (N := some 33) (v := ?_) (a' := ?_) #[true, true, true, true, true, true, true, true, true, true, true, true, true, true, true, false, false] rfl rfl (any_of HT_.out (by kernel_rfl)) (fun _ _ _ h => h) (Or.inl ⟨by rfl, ?_⟩) ?_ ?_
          rotate_left
          ·intro w'
           go_simp
           with_reducible rfl
          rotate_left
          ·simp only [Act.put, List.setIfInBounds_toArray, List.set_cons_zero, List.set_cons_succ, i64_w, i32_w]
           rfl
          refine pure_ (i := 15) (N := some 34) (v := ?_) (a' := ?_) #[true, true, true, true, true, true, true, true, true, true, true, true, true, true, true, true, false] rfl rfl (any_of HT_.out (by kernel_rfl)) (fun _ _ _ h => h) (Or.inl ⟨by rfl, ?_⟩) ?_ ?_
          rotate_left
          ·intro w'
           go_simp
           with_reducible rfl
          rotate_left
          ·simp only [Act.put, List.setIfInBounds_toArray, List.set_cons_zero, List.set_cons_succ, i64_w, i32_w]
           rfl
          refine last_ (i := 16) (N := none) #[true, true, true, true, true, true, true, true, true, true, true, true, true, true, true, true, true] rfl rfl (one_of HT_.out (by kernel_rfl)) (by decide) (fun K hK => ?_)
          refine skip_ (w1 := ?_) (by rfl) rfl ?_ ?_
          rotate_left
          ·go_simp
           rfl
          refine hK.out _ _ ?_
          clear hK K
          refine done_ (done_of HT_.out (by kernel_rfl)) ?_
          try go_wp2
          go_roundg k1
          case measure => have := HK1.out; omega
          case rel => exact ⟨(y291), (wrap64 (x4_1 - 1)), (by first | rfl | (simp; done) | (simp [*]; done)), H', ⟨by have := HK1.out; omega⟩, ⟨by (with_reducible repeat (first|apply rA_|apply rN_|apply rD_)); exact Kd.R_mono (Kd.R_far (p := ⟨go16, ((ji11) : Int).toNat, none⟩) (Kd.R_types HO_0.out GG16.out (by decide)) (fun _ hk => hk.2) (.int .u64 (IntKind.u64.wrap ((IntKind.u64.wrap (65536 * (rd x3_1 (ji11)))) + (IntKind.u64.wrap (rd t283 x4_1)))))) (fun _ hk => trivial)⟩, ⟨r_ HQ19⟩, ⟨by repeat (first | (with_reducible first | exact HB.out | apply below_alloc | apply pw_below_drewN | apply below_drew1 | refine below_set ?_ GB16.out) | exact HB.out)⟩⟩
         rw [if_neg c15] at H
         exact absurd H (by simp)
        rw [if_neg c14] at H
        exact absurd H (by simp)
       rw [if_neg c13] at H
       exact absurd H (by simp)
      rw [if_neg c12] at H
      exact absurd H (by simp)
     rw [if_neg c10] at H
     have c10b0 : decide (0 ≤ x4_1) = false := decide_eq_false c10
     clear c10
     obtain rfl := Option.some.inj H
     go_wp2
     go_ret
     exact ⟨_, by first | rfl | (simp [errW_none, errW_some] <;> rfl) | (simp only [← hji3]; first | rfl | (simp [errW_none, errW_some] <;> rfl)) | (simp [*, errW_none, errW_some] <;> rfl), by (with_reducible repeat (first|apply rA_|apply rN_|apply rD_)); exact HO_3.out, hB_ w⟩
  rw [if_neg c5] at H
  exact absurd H (by simp)
 rw [if_neg c4] at H
 exact absurd H (by simp)

end Go.Proofs.Ytbpobnlkfpjijaa.Pr
end
-- Pr46
section
namespace Go.Proofs.Ytbpobnlkfpjijaa.Pr
open Go.RowKit Go.Proofs.YtbpobnlkfpjijaaW.PrintWords Go.Proofs.YtbpobnlkfpjijaaW.PrintLast Go.Proofs.YtbpobnlkfpjijaaW.PrintMore
attribute [local go_sem] max2_int min2_int max_two min_two max_three min_three max_four min_four   -- for this text's walks alone
set_option linter.unusedVariables false
set_option linter.unusedSimpArgs false

attribute [local go_sem] Go.Proofs.Aid.cell_set_row
def tallystickref04_digit.f (l0 : List Int) (a1 : Int) : Option (Int) := if a1 < (l0.length : Int) then (if 0 ≤ a1 then (some (rd l0 a1)) else (none)) else (some 0)
set_option maxHeartbeats 8000000 in
set_option maxRecDepth 100000 in
theorem tallystickref04_digit.calls (A0 : Option Addr) (c0 : Nat) (l0 : List Int) (a1 : Int) (r : Int) (w : World) (hr0 : Kd.C (Kd.int .i64) w A0 l0.length l0) (hc0 : l0.length ≤ c0) (h : tallystickref04_digit.f l0 a1 = some r) :
    Calls Try.prog 101 #[.slice A0 l0.length c0, .int .i64 a1] w fun e w' => e = .returned (.int .i64 r) ∧ Drawn0 w w' := by
  have HR0 := Aside0.mk hr0
  have HC0 := Aside0.mk hc0
  clear hr0 hc0
  have H : (if a1 < (l0.length : Int) then (if 0 ≤ a1 then (some (rd l0 a1)) else (none)) else (some 0)) = some r := h
  clear h
  by_cases c3 : a1 < (l0.length : Int)
  · rw [if_pos c3] at H
    have c3b0 : decide (a1 < (l0.length : Int)) = true := decide_eq_true c3
    clear c3
    by_cases c4 : 0 ≤ a1
    · rw [if_pos c4] at H
      have c4b0 : decide (0 ≤ a1) = true := decide_eq_true c4
      clear c4
      obtain rfl := Option.some.inj H
      have p292 : 0 ≤ (a1 : Int) := of_decide_eq_true (by first | (with_reducible assumption) | assumption)
      have q292 : a1 < (l0.length : Int) := of_decide_eq_true (by first | (with_reducible assumption) | assumption)
      obtain ⟨ad292, e292, hx292_0⟩ := Kd.at_int HR0.out a1 p292 q292
      cases e292
      replace p292 := eq_true p292
      replace q292 := eq_true q292
      go_enter Try.func101, Try.ntmps101
      go_wp2
      go_ret
      exact ⟨by first | rfl | (simp; done) | (simp [*]; done), by repeat (first | exact Drawn0.refl _ | apply Drawn0.step)⟩
    · rw [if_neg c4] at H
      exact absurd H (by simp)
  · rw [if_neg c3] at H
    have c3b0 : decide (a1 < (l0.length : Int)) = false := decide_eq_false c3
    clear c3
    obtain rfl := Option.some.inj H
    go_enter Try.func101, Try.ntmps101
    go_wp2
    go_ret
    exact ⟨by first | rfl | (simp; done) | (simp [*]; done), by repeat (first | exact Drawn0.refl _ | apply Drawn0.step)⟩

end Go.Proofs.Ytbpobnlkfpjijaa.Pr
end
-- Pr47
section
namespace Go.Proofs.Ytbpobnlkfpjijaa.Pr
open Go.RowKit Go.Proofs.YtbpobnlkfpjijaaW.PrintWords Go.Proofs.YtbpobnlkfpjijaaW.PrintLast Go.Proofs.YtbpobnlkfpjijaaW.PrintMore
attribute [local go_sem] max2_int min2_int max_two min_two max_three min_three max_four min_four   -- for this text's walks alone
set_option linter.unusedVariables false
set_option linter.unusedSimpArgs false

attribute [local go_sem] Go.Proofs.Aid.cell_set_row
mutual
def tallystickref04_Mul.l0 : Nat → List Int → List Int → List Int → Int → Option (List Int)
 | 0, _, _, _, _ => none
 | k + 1, x0, x1, x5, x6 => if x6 < (x0.length : Int) then (tallystickref04_Mul.l1 k x0 x1 x5 x6 0 0) else ((tallystickref04_Trim.f k x5).bind fun t296 => (some t296))
def tallystickref04_Mul.l1 : Nat → List Int → List Int → List Int → Int → Int → Int → Option (List Int)
 | 0, _, _, _, _, _, _ => none
 | k + 1, x0, x1, x5, x6, x7, x8 => if x8 < (x1.length : Int) then (if 0 ≤ (wrap64 (x6 + x8)) then (if (wrap64 (x6 + x8)) < (x5.length : Int) then (if 0 ≤ x6 then (if x6 < (x0.length : Int) then ((tallystickref04_digit.f x1 x8).bind fun t301 => (tallystickref04_Mul.l1 k x0 x1 (x5.set ((wrap64 (x6 + x8)) : Int).toNat (Int.tmod (wrap64 ((wrap64 ((rd x5 (wrap64 (x6 + x8))) + (wrap64 ((rd x0 x6) * t301)))) + x7)) 65536)) x6 (wrap64 (Int.tdiv (wrap64 ((wrap64 ((rd x5 (wrap64 (x6 + x8))) + (wrap64 ((rd x0 x6) * t301)))) + x7)) 65536)) (wrap64 (x8 + 1)))) else (none)) else (none)) else (none)) else (none)) else (if x7 > 0 then (if 0 ≤ (wrap64 (x6 + x8)) then (if (wrap64 (x6 + x8)) < (x5.length : Int) then (if 0 ≤ x6 then (if x6 < (x0.length : Int) then ((tallystickref04_digit.f x1 x8).bind fun t305 => (tallystickref04_Mul.l1 k x0 x1 (x5.set ((wrap64 (x6 + x8)) : Int).toNat (Int.tmod (wrap64 ((wrap64 ((rd x5 (wrap64 (x6 + x8))) + (wrap64 ((rd x0 x6) * t305)))) + x7)) 65536)) x6 (wrap64 (Int.tdiv (wrap64 ((wrap64 ((rd x5 (wrap64 (x6 + x8))) + (wrap64 ((rd x0 x6) * t305)))) + x7)) 65536)) (wrap64 (x8 + 1)))) else (none)) else (none)) else (none)) else (none)) else (tallystickref04_Mul.l0 k x0 x1 x5 (wrap64 (x6 + 1))))
end
def tallystickref04_Mul.f (k : Nat) (l0 : List Int) (l1 : List Int) : Option (List Int) := if 0 ≤ (wrap64 ((wrap64 ((l0.length : Int) + (l1.length : Int))) + 1)) then (if (wrap64 ((wrap64 ((l0.length : Int) + (l1.length : Int))) + 1) : Int).toNat ≤ 35184372088832 then (tallystickref04_Mul.l0 k l0 l1 (List.replicate (wrap64 ((wrap64 ((l0.length : Int) + (l1.length : Int))) + 1) : Int).toNat 0) 0) else (none)) else (none)
theorem tallystickref04_Mul.mono_l : ∀ k, (∀ y0 y1 y2 y3, LeO (tallystickref04_Mul.l0 k y0 y1 y2 y3) (tallystickref04_Mul.l0 (k + 1) y0 y1 y2 y3)) ∧ (∀ y0 y1 y2 y3 y4 y5, LeO (tallystickref04_Mul.l1 k y0 y1 y2 y3 y4 y5) (tallystickref04_Mul.l1 (k + 1) y0 y1 y2 y3 y4 y5))
 | 0 => ⟨fun _ _ _ _ r h => by simp [tallystickref04_Mul.l0] at h, fun _ _ _ _ _ _ r h => by simp [tallystickref04_Mul.l1] at h⟩
 | k + 1 => by
  obtain ⟨ih0, ih1⟩ := tallystickref04_Mul.mono_l k
  refine ⟨?_, ?_⟩
  ·intro y0 y1 y2 y3
   unfold tallystickref04_Mul.l0
   repeat' first
   | (with_reducible exact ih0 _ _ _ _)
   | (with_reducible exact ih1 _ _ _ _ _ _)
   | (with_reducible exact tallystickref04_Trim.mono _ _)
   | (with_reducible exact LeO.refl _)
   | (with_reducible exact LeO.none _)
   | (with_reducible refine LeO.ite ?_ ?_)
   | (with_reducible refine LeO.bind ?_ (fun _ => ?_))
   | exact ih0 _ _ _ _
   | exact ih1 _ _ _ _ _ _
   | exact tallystickref04_Trim.mono _ _
   | exact LeO.none _
   | refine LeO.ite ?_ ?_
   | refine LeO.bind ?_ (fun _ => ?_)
  intro y0 y1 y2 y3 y4 y5
  unfold tallystickref04_Mul.l1
  repeat' first
  | (with_reducible exact ih0 _ _ _ _)
  | (with_reducible exact ih1 _ _ _ _ _ _)
  | (with_reducible exact tallystickref04_Trim.mono _ _)
  | (with_reducible exact LeO.refl _)
  | (with_reducible exact LeO.none _)
  | (with_reducible refine LeO.ite ?_ ?_)
  | (with_reducible refine LeO.bind ?_ (fun _ => ?_))
  | exact ih0 _ _ _ _
  | exact ih1 _ _ _ _ _ _
  | exact tallystickref04_Trim.mono _ _
  | exact LeO.none _
  | refine LeO.ite ?_ ?_
  | refine LeO.bind ?_ (fun _ => ?_)
theorem tallystickref04_Mul.mono : ∀ a0 a1 k, LeO (tallystickref04_Mul.f k a0 a1) (tallystickref04_Mul.f (k + 1) a0 a1) := by
 intro a0 a1 k
 obtain ⟨ih0, ih1⟩ := tallystickref04_Mul.mono_l k
 unfold tallystickref04_Mul.f
 repeat' first
   | (with_reducible exact ih0 _ _ _ _)
   | (with_reducible exact ih1 _ _ _ _ _ _)
   | (with_reducible exact tallystickref04_Trim.mono _ _)
   | (with_reducible exact LeO.refl _)
   | (with_reducible exact LeO.none _)
   | (with_reducible refine LeO.ite ?_ ?_)
   | (with_reducible refine LeO.bind ?_ (fun _ => ?_))
   | exact ih0 _ _ _ _
   | exact ih1 _ _ _ _ _ _
   | exact tallystickref04_Trim.mono _ _
   | exact LeO.none _
   | refine LeO.ite ?_ ?_
   | refine LeO.bind ?_ (fun _ => ?_)
set_option maxHeartbeats 8000000 in
set_option maxRecDepth 100000 in
theorem tallystickref04_Mul.calls (k : Nat) (A0 : Option Addr) (c0 : Nat) (l0 : List Int) (A1 : Option Addr) (c1 : Nat) (l1 : List Int) (r : List Int) (w : World) (hr0 : Kd.C (Kd.int .i64) w A0 l0.length l0) (hc0 : l0.length ≤ c0) (hr1 : Kd.C (Kd.int .i64) w A1 l1.length l1) (hc1 : l1.length ≤ c1) (h : tallystickref04_Mul.f k l0 l1 = some r) :
  Calls Try.prog 79 #[.slice A0 l0.length c0, .slice A1 l1.length c1] w fun e w' => ∃ v0_ : Value, e = .returned (v0_) ∧ Kd.R (Kd.int .i64) 3 w' w.heap.size (fun _ => True) v0_ r ∧ Below w.heap.size w w' := by
 have HR0 := A_ hr0; have HC0 := A_ hc0; clear hr0 hc0; have HR1 := A_ hr1; have HC1 := A_ hc1; clear hr1 hc1; have HB := A_ (Below.refl w.heap.size w)
 have H : (if 0 ≤ (wrap64 ((wrap64 ((l0.length : Int) + (l1.length : Int))) + 1)) then (if (wrap64 ((wrap64 ((l0.length : Int) + (l1.length : Int))) + 1) : Int).toNat ≤ 35184372088832 then (tallystickref04_Mul.l0 k l0 l1 (List.replicate (wrap64 ((wrap64 ((l0.length : Int) + (l1.length : Int))) + 1) : Int).toNat 0) 0) else (none)) else (none)) = some r := h
 clear h
 obtain ⟨ji3, hji3⟩ : ∃ j_ : Int, (wrap64 ((wrap64 ((l0.length : Int) + (l1.length : Int))) + 1)) = j_ := ⟨_, rfl⟩
 replace H : (if 0 ≤ (ji3) then (if (ji3 : Int).toNat ≤ 35184372088832 then (tallystickref04_Mul.l0 k l0 l1 (List.replicate (ji3 : Int).toNat 0) 0) else (none)) else (none)) = some r := by first | (rw [hji3] at H; exact H) | (simp only [hji3] at H ⊢; exact H)
 have hji3w : (IntKind.i64.wrap ((wrap64 ((l0.length : Int) + (l1.length : Int))) + 1)) = ji3 := (i64_w _).trans hji3
 by_cases c4 : 0 ≤ (ji3)
 ·rw [if_pos c4] at H
  have c4b0 := eq_true c4
  have c4b1 : decide (0 ≤ (ji3)) = true := decide_eq_true c4
  clear c4
  by_cases c5 : (ji3 : Int).toNat ≤ 35184372088832
  ·rw [if_pos c5] at H
   have c5b0 := eq_true c5
   have c5b1 : decide ((ji3 : Int).toNat ≤ 35184372088832) = true := decide_eq_true c5
   clear c5
   obtain ⟨y293, hy293⟩ : ∃ y_ : List Int, y_ = (List.replicate (ji3 : Int).toNat 0) := ⟨_, rfl⟩
   replace H : (tallystickref04_Mul.l0 k l0 l1 y293 0) = some r := by first | (rw [hy293]; with_reducible exact H) | (have H2_ := (Option.bind_some _ _).symm.trans H; rw [hy293]; with_reducible exact H2_) | (have H2_ := (Option.bind_some _ _).symm.trans H; with_reducible exact H2_) | with_reducible exact H | (rw [hy293]; exact H) | exact H
   have Ny293 := A_ hy293; clear hy293
   have H' := A_ H
   clear H
   go_enter Try.func79, Try.ntmps79
   go_wp2_with (first | ((with_reducible refine gate_dst (N := 16) rfl ?_); refine Kd.R_make (Kd.int .i64) _ 3 rfl (N := 16) rfl 110 _ _ rfl ji3 rfl rfl Try.underlying110 (.int .i64 0) 8 info3 rfl (by decide) (by omega) 0 (ok := fun _ => True) (okp := fun _ => True) rfl (fun _ hk => hk) trivial (of_decide_eq_true (by first | (with_reducible assumption) | assumption)) (Nat.le_trans (Nat.mul_le_mul_right _ (of_decide_eq_true (by first | (with_reducible assumption) | assumption) : ji3.toNat ≤ 35184372088832)) (by omega)) (Below.refl _ _) (Nat.le_refl _) ?_; intro v294 w6 ho7 hb hg_ hnew_; clear hg_ hnew_; (first | rw [← Ny293.out] at ho7 | (simp only [Int.reduceToNat] at ho7; rw [← Ny293.out] at ho7)); have HO295 := A_ (Kd.R_lower ho7 (below_size (hB_ w))); replace HB := A_ (below_step (hB_ w) hb); clear hb ho7))
   repeat (go_quiet (first | ((with_reducible refine gate_dst (N := 16) rfl ?_); refine Kd.R_make (Kd.int .i64) _ 3 rfl (N := 16) rfl 110 _ _ rfl ji3 rfl rfl Try.underlying110 (.int .i64 0) 8 info3 rfl (by decide) (by omega) 0 (ok := fun _ => True) (okp := fun _ => True) rfl (fun _ hk => hk) trivial (of_decide_eq_true (by first | (with_reducible assumption) | assumption)) (Nat.le_trans (Nat.mul_le_mul_right _ (of_decide_eq_true (by first | (with_reducible assumption) | assumption) : ji3.toNat ≤ 35184372088832)) (by omega)) (Below.refl _ _) (Nat.le_refl _) ?_; intro v294 w6 ho7 hb hg_ hnew_; clear hg_ hnew_; (first | rw [← Ny293.out] at ho7 | (simp only [Int.reduceToNat] at ho7; rw [← Ny293.out] at ho7)); have HO295 := A_ (Kd.R_lower ho7 (below_size (hB_ w))); replace HB := A_ (below_step (hB_ w) hb); clear hb ho7)); try go_wp2_with (first | ((with_reducible refine gate_dst (N := 16) rfl ?_); refine Kd.R_make (Kd.int .i64) _ 3 rfl (N := 16) rfl 110 _ _ rfl ji3 rfl rfl Try.underlying110 (.int .i64 0) 8 info3 rfl (by decide) (by omega) 0 (ok := fun _ => True) (okp := fun _ => True) rfl (fun _ hk => hk) trivial (of_decide_eq_true (by first | (with_reducible assumption) | assumption)) (Nat.le_trans (Nat.mul_le_mul_right _ (of_decide_eq_true (by first | (with_reducible assumption) | assumption) : ji3.toNat ≤ 35184372088832)) (by omega)) (Below.refl _ _) (Nat.le_refl _) ?_; intro v294 w6 ho7 hb hg_ hnew_; clear hg_ hnew_; (first | rw [← Ny293.out] at ho7 | (simp only [Int.reduceToNat] at ho7; rw [← Ny293.out] at ho7)); have HO295 := A_ (Kd.R_lower ho7 (below_size (hB_ w))); replace HB := A_ (below_step (hB_ w) hb); clear hb ho7)))
   go_loopg [6] k (fun kq v6 w' => ∃ (x5_1 : List Int) (x6_1 : Int), v6 = .int .i64 x6_1 ∧ AsC (tallystickref04_Mul.l0 kq l0 l1 x5_1 x6_1 = some r) ∧ AsC (kq ≤ k) ∧ AsC (Kd.R (Kd.int .i64) 3 w' w.heap.size (fun _ => True) v294 x5_1) ∧ AsC (Below w.heap.size w w'))
   case atStart => exact ⟨(y293), (0), (by first | rfl | (simp; done) | (simp [*]; done)), H', ⟨Nat.le_refl _⟩, ⟨r_ HO295⟩, ⟨hB_ w⟩⟩
   case round =>
    clear H'; try clear c1; try clear p2; try clear c4; try clear c4b0; try clear c4b1; try clear c5; try clear c5b0; try clear c5b1; try clear p6; try clear c7
    obtain ⟨x5_1, x6_1, rfl, HA, HK1, HO_5, HB⟩ := hrel
    cases gk with
    | zero => exact absurd HA.out (by simp [tallystickref04_Mul.l0])
    | succ k1 =>
     have H := HA.out; clear HA
     simp only [tallystickref04_Mul.l0] at H
     by_cases c8 : x6_1 < (l0.length : Int)
     ·rw [if_pos c8] at H
      have c8b0 : decide (x6_1 < (l0.length : Int)) = true := decide_eq_true c8
      clear c8
      have H' := A_ H
      clear H
      go_wp2
      repeat (go_quiet (fail); try go_wp2)
      go_loopg [7, 8] k1 (fun kq v7 v8 w' => ∃ (x5_2 : List Int) (x7_2 : Int) (x8_2 : Int), v7 = .int .i64 x7_2 ∧ v8 = .int .i64 x8_2 ∧ AsC (tallystickref04_Mul.l1 kq l0 l1 x5_2 x6_1 x7_2 x8_2 = some r) ∧ AsC (kq ≤ k1) ∧ AsC (Kd.R (Kd.int .i64) 3 w' w.heap.size (fun _ => True) v294 x5_2) ∧ AsC (Below w.heap.size w w'))
      case atStart => exact ⟨(x5_1), (0), (0), (by first | rfl | (simp; done) | (simp [*]; done)), (by first | rfl | (simp; done) | (simp [*]; done)), H', ⟨Nat.le_refl _⟩, ⟨r_ HO_5⟩, ⟨hB_ w⟩⟩
      case round =>
       clear H'; try clear c1; try clear p2; try clear c4; try clear c4b0; try clear c4b1; try clear c5; try clear c5b0; try clear c5b1; try clear p6; try clear c7; try clear c8; try clear c8b0; try clear p2; try clear p6
       obtain ⟨x5_2, x7_2, x8_2, rfl, rfl, HA, HK2, HO_5, HB⟩ := hrel
       cases gk with
       | zero => exact absurd HA.out (by simp [tallystickref04_Mul.l1])
       | succ k2 =>
        have H := HA.out; clear HA
        simp only [tallystickref04_Mul.l1] at H
        by_cases c9 : x8_2 < (l1.length : Int)
        ·rw [if_pos c9] at H
         have c9b0 : decide (x8_2 < (l1.length : Int)) = true := decide_eq_true c9
         clear c9
         obtain ⟨ji10, hji10⟩ : ∃ j_ : Int, (wrap64 (x6_1 + x8_2)) = j_ := ⟨_, rfl⟩
         replace H : (if 0 ≤ (ji10) then (if (ji10) < (x5_2.length : Int) then (if 0 ≤ x6_1 then (if x6_1 < (l0.length : Int) then ((tallystickref04_digit.f l1 x8_2).bind fun t301 => (tallystickref04_Mul.l1 k2 l0 l1 (x5_2.set ((ji10) : Int).toNat (Int.tmod (wrap64 ((wrap64 ((rd x5_2 (ji10)) + (wrap64 ((rd l0 x6_1) * t301)))) + x7_2)) 65536)) x6_1 (wrap64 (Int.tdiv (wrap64 ((wrap64 ((rd x5_2 (ji10)) + (wrap64 ((rd l0 x6_1) * t301)))) + x7_2)) 65536)) (wrap64 (x8_2 + 1)))) else (none)) else (none)) else (none)) else (none)) = some r := by first | (rw [hji10] at H; exact H) | (simp only [hji10] at H ⊢; exact H)
         have hji10w : (IntKind.i64.wrap (x6_1 + x8_2)) = ji10 := (i64_w _).trans hji10
         by_cases c11 : 0 ≤ (ji10)
         ·rw [if_pos c11] at H
          have c11b0 : decide (0 ≤ (ji10)) = true := decide_eq_true c11
          clear c11
          by_cases c12 : (ji10) < (x5_2.length : Int)
          ·rw [if_pos c12] at H
           have c12b0 : decide ((ji10) < (x5_2.length : Int)) = true := decide_eq_true c12
           clear c12
           by_cases c13 : 0 ≤ x6_1
           ·rw [if_pos c13] at H
            have c13b0 : decide (0 ≤ x6_1) = true := decide_eq_true c13
            clear c13
            by_cases c14 : x6_1 < (l0.length : Int)
            ·rw [if_pos c14] at H
             have c14b0 : decide (x6_1 < (l0.length : Int)) = true := decide_eq_true c14
             clear c14
             replace H := Option.bind_eq_some_iff.mp H
             obtain ⟨t301, A150, H⟩ := H
             replace H : (tallystickref04_Mul.l1 k2 l0 l1 (x5_2.set ((ji10) : Int).toNat (Int.tmod (wrap64 ((wrap64 ((rd x5_2 (ji10)) + (wrap64 ((rd l0 x6_1) * t301)))) + x7_2)) 65536)) x6_1 (wrap64 (Int.tdiv (wrap64 ((wrap64 ((rd x5_2 (ji10)) + (wrap64 ((rd l0 x6_1) * t301)))) + x7_2)) 65536)) (wrap64 (x8_2 + 1))) = some r := H
             have A15 := A_ A150; clear A150
             obtain ⟨y302, hy302⟩ : ∃ y_ : List Int, y_ = (x5_2.set ((ji10) : Int).toNat (Int.tmod (wrap64 ((wrap64 ((rd x5_2 (ji10)) + (wrap64 ((rd l0 x6_1) * t301)))) + x7_2)) 65536)) := ⟨_, rfl⟩
             replace H : (tallystickref04_Mul.l1 k2 l0 l1 y302 x6_1 (wrap64 (Int.tdiv (wrap64 ((wrap64 ((rd x5_2 (ji10)) + (wrap64 ((rd l0 x6_1) * t301)))) + x7_2)) 65536)) (wrap64 (x8_2 + 1))) = some r := by first | (rw [hy302]; with_reducible exact H) | (have H2_ := (Option.bind_some _ _).symm.trans H; rw [hy302]; with_reducible exact H2_) | (have H2_ := (Option.bind_some _ _).symm.trans H; with_reducible exact H2_) | with_reducible exact H | (rw [hy302]; exact H) | exact H
             have Ny302 := A_ hy302; clear hy302
             have H' := A_ H
             clear H
             obtain ⟨Ao17, co17, eo17⟩ := Kd.R_slice HO_5.out
             subst eo17
             have p299 : 0 ≤ ((ji10) : Int) := of_decide_eq_true (by first | (with_reducible assumption) | assumption)
             have q299 : (ji10) < (x5_2.length : Int) := of_decide_eq_true (by first | (with_reducible assumption) | assumption)
             obtain ⟨ad299, e299, hx299_0⟩ := Kd.at_int (Kd.R_reads' HO_5.out).2.2 (ji10) p299 q299
             cases e299
             replace p299 := eq_true p299
             replace q299 := eq_true q299
             have p300 : 0 ≤ (x6_1 : Int) := of_decide_eq_true (by first | (with_reducible assumption) | assumption)
             have q300 : x6_1 < (l0.length : Int) := of_decide_eq_true (by first | (with_reducible assumption) | assumption)
             obtain ⟨ad300, e300, hx300_0⟩ := Kd.at_int HR0.out x6_1 p300 q300
             cases e300
             replace hx300_0 := (HB.out.cell (World.block_lt_of_cell? w _ hx300_0)).trans hx300_0
             replace p300 := eq_true p300
             replace q300 := eq_true q300
             go_wp2_with (first | (go_at_call 101; (with_reducible refine (tallystickref04_digit.calls _ _ l1 x8_2 t301 _ ?side1 ?side2 A15.out).mono ?_); (case side1 => repeat (first | exact (Kd.C_below HR1.out HB.out) | (with_reducible refine Kd.C_alloc ?_ _) | (with_reducible refine Kd.C_drewN ?_ _) | (with_reducible refine Kd.C_drew ?_))); (case side2 => exact HC1.out); rintro e w' ⟨rfl, ⟨nd, rfl⟩⟩; (try first | exact ⟨rfl, _, World.drewN_drewN _ _ _⟩ | exact ⟨rfl, _, Eq.trans (World.drewN_drewN _ _ _) (congrArg (World.drewN _) (Nat.add_assoc _ _ _))⟩); have p16 : 0 ≤ ((ji10) : Int) := of_decide_eq_true (by first | (with_reducible assumption) | assumption); have q16 : ((ji10) : Int) < ((x5_2.length : Int) : Int) := of_decide_eq_true (by first | (with_reducible assumption) | assumption); obtain ⟨go16, co16, eo16, gb16, gl16, cl16, HG16⟩ := Kd.R_form HO_5.out (by omega); (first | cases eo16 | (injection eo16 with ea_ en_ ec_; (first | subst ea_ | (injection ea_ with ea_; subst ea_)); subst ec_; clear en_)); have GB16 := A_ gb16; have GG16 := A_ HG16; clear gb16 gl16 HG16; (first | simp only [add_plain] at hx299_0 | skip); obtain ⟨hx16_0, hf16_0⟩ := Kd.R_celln 0 HO_5.out ((ji10) : Int) p16 q16; replace p16 := eq_true p16; replace q16 := eq_true q16; obtain ⟨hy18_, hz18_⟩ := Kd.R_celln 0 HO_5.out ((ji10) : Int) (of_decide_eq_true (by first | (with_reducible assumption) | assumption)) (of_decide_eq_true (by first | (with_reducible assumption) | assumption)); have HP18 := Kd.R_putg HO_5.out ((ji10) : Int) (Int.tmod (wrap64 ((wrap64 ((rd x5_2 (ji10)) + (wrap64 ((rd l0 x6_1) * t301)))) + x7_2)) 65536)) | ((with_reducible refine gate_store (t := 3) (p := 56) rfl ?_); (try (rw [drewN_self wr]; generalize hq_ : World.drewN wr _ = wr; replace HO_5 := A_ (Kd.R_at hq_ HO_5.out); replace HB := A_ (below_at hq_ HB.out); clear hq_; (try (obtain ⟨hy18_, hz18_⟩ := Kd.R_celln 0 HO_5.out ((ji10) : Int) (of_decide_eq_true (by first | (with_reducible assumption) | assumption)) (of_decide_eq_true (by first | (with_reducible assumption) | assumption)))); (try (have HP18 := Kd.R_putg HO_5.out ((ji10) : Int) (Int.tmod (wrap64 ((wrap64 ((rd x5_2 (ji10)) + (wrap64 ((rd l0 x6_1) * t301)))) + x7_2)) 65536))))); refine store_event (t := 3) (p := 56) (v := ?vo_w19) (w1 := (wr.setCell ⟨go16, ((ji10) : Int).toNat, none⟩ (.int .i64 (Int.tmod (wrap64 ((wrap64 ((rd x5_2 (ji10)) + (wrap64 ((rd l0 x6_1) * t301)))) + x7_2)) 65536)))) ?hg ?ho ?hn ?hr ?_; (case ho => rfl); (case hg => rfl); (case hn => rfl); (case hr => first | (go_simp; done) | (go_simp; rfl)); intro w19 hw; have hg : wr.grownBy w19 (some go16) := (by rw [hw]; exact HP18.2); have hp_ : Kd.R (Kd.int .i64) 3 w19 w.heap.size (fun _ => True) (.slice (some ⟨go16, 0, none⟩) x5_2.length co17) y302 := (by rw [hw, Ny302.out]; exact HP18.1); clear HP18; replace HO_5 := A_ hp_; replace HB := A_ ((by rw [hw]; exact below_set (HB.out) GB16.out : Below w.heap.size w w19)); clear hg hw hp_))
             repeat (go_quiet (first | (go_at_call 101; (with_reducible refine (tallystickref04_digit.calls _ _ l1 x8_2 t301 _ ?side1 ?side2 A15.out).mono ?_); (case side1 => repeat (first | exact (Kd.C_below HR1.out HB.out) | (with_reducible refine Kd.C_alloc ?_ _) | (with_reducible refine Kd.C_drewN ?_ _) | (with_reducible refine Kd.C_drew ?_))); (case side2 => exact HC1.out); rintro e w' ⟨rfl, ⟨nd, rfl⟩⟩; (try first | exact ⟨rfl, _, World.drewN_drewN _ _ _⟩ | exact ⟨rfl, _, Eq.trans (World.drewN_drewN _ _ _) (congrArg (World.drewN _) (Nat.add_assoc _ _ _))⟩); have p16 : 0 ≤ ((ji10) : Int) := of_decide_eq_true (by first | (with_reducible assumption) | assumption); have q16 : ((ji10) : Int) < ((x5_2.length : Int) : Int) := of_decide_eq_true (by first | (with_reducible assumption) | assumption); obtain ⟨go16, co16, eo16, gb16, gl16, cl16, HG16⟩ := Kd.R_form HO_5.out (by omega); (first | cases eo16 | (injection eo16 with ea_ en_ ec_; (first | subst ea_ | (injection ea_ with ea_; subst ea_)); subst ec_; clear en_)); have GB16 := A_ gb16; have GG16 := A_ HG16; clear gb16 gl16 HG16; (first | simp only [add_plain] at hx299_0 | skip); obtain ⟨hx16_0, hf16_0⟩ := Kd.R_celln 0 HO_5.out ((ji10) : Int) p16 q16; replace p16 := eq_true p16; replace q16 := eq_true q16; obtain ⟨hy18_, hz18_⟩ := Kd.R_celln 0 HO_5.out ((ji10) : Int) (of_decide_eq_true (by first | (with_reducible assumption) | assumption)) (of_decide_eq_true (by first | (with_reducible assumption) | assumption)); have HP18 := Kd.R_putg HO_5.out ((ji10) : Int) (Int.tmod (wrap64 ((wrap64 ((rd x5_2 (ji10)) + (wrap64 ((rd l0 x6_1) * t301)))) + x7_2)) 65536)) | ((with_reducible refine gate_store (t := 3) (p := 56) rfl ?_); (try (rw [drewN_self wr]; generalize hq_ : World.drewN wr _ = wr; replace HO_5 := A_ (Kd.R_at hq_ HO_5.out); replace HB := A_ (below_at hq_ HB.out); clear hq_; (try (obtain ⟨hy18_, hz18_⟩ := Kd.R_celln 0 HO_5.out ((ji10) : Int) (of_decide_eq_true (by first | (with_reducible assumption) | assumption)) (of_decide_eq_true (by first | (with_reducible assumption) | assumption)))); (try (have HP18 := Kd.R_putg HO_5.out ((ji10) : Int) (Int.tmod (wrap64 ((wrap64 ((rd x5_2 (ji10)) + (wrap64 ((rd l0 x6_1) * t301)))) + x7_2)) 65536))))); refine store_event (t := 3) (p := 56) (v := ?vo_w19) (w1 := (wr.setCell ⟨go16, ((ji10) : Int).toNat, none⟩ (.int .i64 (Int.tmod (wrap64 ((wrap64 ((rd x5_2 (ji10)) + (wrap64 ((rd l0 x6_1) * t301)))) + x7_2)) 65536)))) ?hg ?ho ?hn ?hr ?_; (case ho => rfl); (case hg => rfl); (case hn => rfl); (case hr => first | (go_simp; done) | (go_simp; rfl)); intro w19 hw; have hg : wr.grownBy w19 (some go16) := (by rw [hw]; exact HP18.2); have hp_ : Kd.R (Kd.int .i64) 3 w19 w.heap.size (fun _ => True) (.slice (some ⟨go16, 0, none⟩) x5_2.length co17) y302 := (by rw [hw, Ny302.out]; exact HP18.1); clear HP18; replace HO_5 := A_ hp_; replace HB := A_ ((by rw [hw]; exact below_set (HB.out) GB16.out : Below w.heap.size w w19)); clear hg hw hp_)); try go_wp2_with (first | (go_at_call 101; (with_reducible refine (tallystickref04_digit.calls _ _ l1 x8_2 t301 _ ?side1 ?side2 A15.out).mono ?_); (case side1 => repeat (first | exact (Kd.C_below HR1.out HB.out) | (with_reducible refine Kd.C_alloc ?_ _) | (with_reducible refine Kd.C_drewN ?_ _) | (with_reducible refine Kd.C_drew ?_))); (case side2 => exact HC1.out); rintro e w' ⟨rfl, ⟨nd, rfl⟩⟩; (try first | exact ⟨rfl, _, World.drewN_drewN _ _ _⟩ | exact ⟨rfl, _, Eq.trans (World.drewN_drewN _ _ _) (congrArg (World.drewN _) (Nat.add_assoc _ _ _))⟩); have p16 : 0 ≤ ((ji10) : Int) := of_decide_eq_true (by first | (with_reducible assumption) | assumption); have q16 : ((ji10) : Int) < ((x5_2.length : Int) : Int) := of_decide_eq_true (by first | (with_reducible assumption) | assumption); obtain ⟨go16, co16, eo16, gb16, gl16, cl16, HG16⟩ := Kd.R_form HO_5.out (by omega); (first | cases eo16 | (injection eo16 with ea_ en_ ec_; (first | subst ea_ | (injection ea_ with ea_; subst ea_)); subst ec_; clear en_)); have GB16 := A_ gb16; have GG16 := A_ HG16; clear gb16 gl16 HG16; (first | simp only [add_plain] at hx299_0 | skip); obtain ⟨hx16_0, hf16_0⟩ := Kd.R_celln 0 HO_5.out ((ji10) : Int) p16 q16; replace p16 := eq_true p16; replace q16 := eq_true q16; obtain ⟨hy18_, hz18_⟩ := Kd.R_celln 0 HO_5.out ((ji10) : Int) (of_decide_eq_true (by first | (with_reducible assumption) | assumption)) (of_decide_eq_true (by first | (with_reducible assumption) | assumption)); have HP18 := Kd.R_putg HO_5.out ((ji10) : Int) (Int.tmod (wrap64 ((wrap64 ((rd x5_2 (ji10)) + (wrap64 ((rd l0 x6_1) * t301)))) + x7_2)) 65536)) | ((with_reducible refine gate_store (t := 3) (p := 56) rfl ?_); (try (rw [drewN_self wr]; generalize hq_ : World.drewN wr _ = wr; replace HO_5 := A_ (Kd.R_at hq_ HO_5.out); replace HB := A_ (below_at hq_ HB.out); clear hq_; (try (obtain ⟨hy18_, hz18_⟩ := Kd.R_celln 0 HO_5.out ((ji10) : Int) (of_decide_eq_true (by first | (with_reducible assumption) | assumption)) (of_decide_eq_true (by first | (with_reducible assumption) | assumption)))); (try (have HP18 := Kd.R_putg HO_5.out ((ji10) : Int) (Int.tmod (wrap64 ((wrap64 ((rd x5_2 (ji10)) + (wrap64 ((rd l0 x6_1) * t301)))) + x7_2)) 65536))))); refine store_event (t := 3) (p := 56) (v := ?vo_w19) (w1 := (wr.setCell ⟨go16, ((ji10) : Int).toNat, none⟩ (.int .i64 (Int.tmod (wrap64 ((wrap64 ((rd x5_2 (ji10)) + (wrap64 ((rd l0 x6_1) * t301)))) + x7_2)) 65536)))) ?hg ?ho ?hn ?hr ?_; (case ho => rfl); (case hg => rfl); (case hn => rfl); (case hr => first | (go_simp; done) | (go_simp; rfl)); intro w19 hw; have hg : wr.grownBy w19 (some go16) := (by rw [hw]; exact HP18.2); have hp_ : Kd.R (Kd.int .i64) 3 w19 w.heap.size (fun _ => True) (.slice (some ⟨go16, 0, none⟩) x5_2.length co17) y302 := (by rw [hw, Ny302.out]; exact HP18.1); clear HP18; replace HO_5 := A_ hp_; replace HB := A_ ((by rw [hw]; exact below_set (HB.out) GB16.out : Below w.heap.size w w19)); clear hg hw hp_)))
             go_roundg k2
             case measure => have := HK1.out; have := HK2.out; omega
             case rel => exact ⟨(y302), (wrap64 (Int.tdiv (wrap64 ((wrap64 ((rd x5_2 (ji10)) + (wrap64 ((rd l0 x6_1) * t301)))) + x7_2)) 65536)), (wrap64 (x8_2 + 1)), (by first | rfl | (simp; done) | (simp only [← hji10] <;> (first | rfl | simp)) | (simp [*]; done)), (by first | rfl | (simp; done) | (simp [*]; done)), H', ⟨by have := HK1.out; have := HK2.out; omega⟩, ⟨r_ HO_5⟩, ⟨hB_ w⟩⟩
            rw [if_neg c14] at H
            exact absurd H (by simp)
           rw [if_neg c13] at H
           exact absurd H (by simp)
          rw [if_neg c12] at H
          exact absurd H (by simp)
         rw [if_neg c11] at H
         exact absurd H (by simp)
        rw [if_neg c9] at H
        have c9b0 : decide (x8_2 < (l1.length : Int)) = false := decide_eq_false c9
        clear c9
        by_cases c20 : x7_2 > 0
        ·rw [if_pos c20] at H
         have c20b0 : decide (0 < x7_2) = true := decide_eq_true c20
         clear c20
         obtain ⟨ji21, hji21⟩ : ∃ j_ : Int, (wrap64 (x6_1 + x8_2)) = j_ := ⟨_, rfl⟩
         replace H : (if 0 ≤ (ji21) then (if (ji21) < (x5_2.length : Int) then (if 0 ≤ x6_1 then (if x6_1 < (l0.length : Int) then ((tallystickref04_digit.f l1 x8_2).bind fun t305 => (tallystickref04_Mul.l1 k2 l0 l1 (x5_2.set ((ji21) : Int).toNat (Int.tmod (wrap64 ((wrap64 ((rd x5_2 (ji21)) + (wrap64 ((rd l0 x6_1) * t305)))) + x7_2)) 65536)) x6_1 (wrap64 (Int.tdiv (wrap64 ((wrap64 ((rd x5_2 (ji21)) + (wrap64 ((rd l0 x6_1) * t305)))) + x7_2)) 65536)) (wrap64 (x8_2 + 1)))) else (none)) else (none)) else (none)) else (none)) = some r := by first | (rw [hji21] at H; exact H) | (simp only [hji21] at H ⊢; exact H)
         have hji21w : (IntKind.i64.wrap (x6_1 + x8_2)) = ji21 := (i64_w _).trans hji21
         by_cases c22 : 0 ≤ (ji21)
         ·rw [if_pos c22] at H
          have c22b0 : decide (0 ≤ (ji21)) = true := decide_eq_true c22
          clear c22
          by_cases c23 : (ji21) < (x5_2.length : Int)
          ·rw [if_pos c23] at H
           have c23b0 : decide ((ji21) < (x5_2.length : Int)) = true := decide_eq_true c23
           clear c23
           by_cases c24 : 0 ≤ x6_1
           ·rw [if_pos c24] at H
            have c24b0 : decide (0 ≤ x6_1) = true := decide_eq_true c24
            clear c24
            by_cases c25 : x6_1 < (l0.length : Int)
            ·rw [if_pos c25] at H
             have c25b0 : decide (x6_1 < (l0.length : Int)) = true := decide_eq_true c25
             clear c25
             replace H := Option.bind_eq_some_iff.mp H
             obtain ⟨t305, A260, H⟩ := H
             replace H : (tallystickref04_Mul.l1 k2 l0 l1 (x5_2.set ((ji21) : Int).toNat (Int.tmod (wrap64 ((wrap64 ((rd x5_2 (ji21)) + (wrap64 ((rd l0 x6_1) * t305)))) + x7_2)) 65536)) x6_1 (wrap64 (Int.tdiv (wrap64 ((wrap64 ((rd x5_2 (ji21)) + (wrap64 ((rd l0 x6_1) * t305)))) + x7_2)) 65536)) (wrap64 (x8_2 + 1))) = some r := H
             have A26 := A_ A260; clear A260
             obtain ⟨y306, hy306⟩ : ∃ y_ : List Int, y_ = (x5_2.set ((ji21) : Int).toNat (Int.tmod (wrap64 ((wrap64 ((rd x5_2 (ji21)) + (wrap64 ((rd l0 x6_1) * t305)))) + x7_2)) 65536)) := ⟨_, rfl⟩
             replace H : (tallystickref04_Mul.l1 k2 l0 l1 y306 x6_1 (wrap64 (Int.tdiv (wrap64 ((wrap64 ((rd x5_2 (ji21)) + (wrap64 ((rd l0 x6_1) * t305)))) + x7_2)) 65536)) (wrap64 (x8_2 + 1))) = some r := by first | (rw [hy306]; with_reducible exact H) | (have H2_ := (Option.bind_some _ _).symm.trans H; rw [hy306]; with_reducible exact H2_) | (have H2_ := (Option.bind_some _ _).symm.trans H; with_reducible exact H2_) | with_reducible exact H | (rw [hy306]; exact H) | exact H
             have Ny306 := A_ hy306; clear hy306
             have H' := A_ H
             clear H
             obtain ⟨Ao28, co28, eo28⟩ := Kd.R_slice HO_5.out
             subst eo28
             have p303 : 0 ≤ ((ji21) : Int) := of_decide_eq_true (by first | (with_reducible assumption) | assumption)
             have q303 : (ji21) < (x5_2.length : Int) := of_decide_eq_true (by first | (with_reducible assumption) | assumption)
             obtain ⟨ad303, e303, hx303_0⟩ := Kd.at_int (Kd.R_reads' HO_5.out).2.2 (ji21) p303 q303
             cases e303
             replace p303 := eq_true p303
             replace q303 := eq_true q303
             have p304 : 0 ≤ (x6_1 : Int) := of_decide_eq_true (by first | (with_reducible assumption) | assumption)
             have q304 : x6_1 < (l0.length : Int) := of_decide_eq_true (by first | (with_reducible assumption) | assumption)
             obtain ⟨ad304, e304, hx304_0⟩ := Kd.at_int HR0.out x6_1 p304 q304
             cases e304
             replace hx304_0 := (HB.out.cell (World.block_lt_of_cell? w _ hx304_0)).trans hx304_0
             replace p304 := eq_true p304
             replace q304 := eq_true q304
             go_wp2_with (first | (go_at_call 101; (with_reducible refine (tallystickref04_digit.calls _ _ l1 x8_2 t305 _ ?side1 ?side2 A26.out).mono ?_); (case side1 => repeat (first | exact (Kd.C_below HR1.out HB.out) | (with_reducible refine Kd.C_alloc ?_ _) | (with_reducible refine Kd.C_drewN ?_ _) | (with_reducible refine Kd.C_drew ?_))); (case side2 => exact HC1.out); rintro e w' ⟨rfl, ⟨nd, rfl⟩⟩; (try first | exact ⟨rfl, _, World.drewN_drewN _ _ _⟩ | exact ⟨rfl, _, Eq.trans (World.drewN_drewN _ _ _) (congrArg (World.drewN _) (Nat.add_assoc _ _ _))⟩); have p27 : 0 ≤ ((ji21) : Int) := of_decide_eq_true (by first | (with_reducible assumption) | assumption); have q27 : ((ji21) : Int) < ((x5_2.length : Int) : Int) := of_decide_eq_true (by first | (with_reducible assumption) | assumption); obtain ⟨go27, co27, eo27, gb27, gl27, cl27, HG27⟩ := Kd.R_form HO_5.out (by omega); (first | cases eo27 | (injection eo27 with ea_ en_ ec_; (first | subst ea_ | (injection ea_ with ea_; subst ea_)); subst ec_; clear en_)); have GB27 := A_ gb27; have GG27 := A_ HG27; clear gb27 gl27 HG27; (first | simp only [add_plain] at hx303_0 | skip); obtain ⟨hx27_0, hf27_0⟩ := Kd.R_celln 0 HO_5.out ((ji21) : Int) p27 q27; replace p27 := eq_true p27; replace q27 := eq_true q27; obtain ⟨hy29_, hz29_⟩ := Kd.R_celln 0 HO_5.out ((ji21) : Int) (of_decide_eq_true (by first | (with_reducible assumption) | assumption)) (of_decide_eq_true (by first | (with_reducible assumption) | assumption)); have HP29 := Kd.R_putg HO_5.out ((ji21) : Int) (Int.tmod (wrap64 ((wrap64 ((rd x5_2 (ji21)) + (wrap64 ((rd l0 x6_1) * t305)))) + x7_2)) 65536)) | ((with_reducible refine gate_store (t := 3) (p := 56) rfl ?_); (try (rw [drewN_self wr]; generalize hq_ : World.drewN wr _ = wr; replace HO_5 := A_ (Kd.R_at hq_ HO_5.out); replace HB := A_ (below_at hq_ HB.out); clear hq_; (try (obtain ⟨hy29_, hz29_⟩ := Kd.R_celln 0 HO_5.out ((ji21) : Int) (of_decide_eq_true (by first | (with_reducible assumption) | assumption)) (of_decide_eq_true (by first | (with_reducible assumption) | assumption)))); (try (have HP29 := Kd.R_putg HO_5.out ((ji21) : Int) (Int.tmod (wrap64 ((wrap64 ((rd x5_2 (ji21)) + (wrap64 ((rd l0 x6_1) * t305)))) + x7_2)) 65536))))); refine store_event (t := 3) (p := 56) (v := ?vo_w30) (w1 := (wr.setCell ⟨go27, ((ji21) : Int).toNat, none⟩ (.int .i64 (Int.tmod (wrap64 ((wrap64 ((rd x5_2 (ji21)) + (wrap64 ((rd l0 x6_1) * t305)))) + x7_2)) 65536)))) ?hg ?ho ?hn ?hr ?_; (case ho => rfl); (case hg => rfl); (case hn => rfl); (case hr => first | (go_simp; done) | (go_simp; rfl)); intro w30 hw; have hg : wr.grownBy w30 (some go27) := (by rw [hw]; exact HP29.2); have hp_ : Kd.R (Kd.int .i64) 3 w30 w.heap.size (fun _ => True) (.slice (some ⟨go27, 0, none⟩) x5_2.length co28) y306 := (by rw [hw, Ny306.out]; exact HP29.1); clear HP29; replace HO_5 := A_ hp_; replace HB := A_ ((by rw [hw]; exact below_set (HB.out) GB27.out : Below w.heap.size w w30)); clear hg hw hp_))
             repeat (go_quiet (first | (go_at_call 101; (with_reducible refine (tallystickref04_digit.calls _ _ l1 x8_2 t305 _ ?side1 ?side2 A26.out).mono ?_); (case side1 => repeat (first | exact (Kd.C_below HR1.out HB.out) | (with_reducible refine Kd.C_alloc ?_ _) | (with_reducible refine Kd.C_drewN ?_ _) | (with_reducible refine Kd.C_drew ?_))); (case side2 => exact HC1.out); rintro e w' ⟨rfl, ⟨nd, rfl⟩⟩; (try first | exact ⟨rfl, _, World.drewN_drewN _ _ _⟩ | exact ⟨rfl, _, Eq.trans (World.drewN_drewN _ _ _) (congrArg (World.drewN _) (Nat.add_assoc _ _ _))⟩); have p27 : 0 ≤ ((ji21) : Int) := of_decide_eq_true (by first | (with_reducible assumption) | assumption); have q27 : ((ji21) : Int) < ((x5_2.length : Int) : Int) := of_decide_eq_true (by first | (with_reducible assumption) | assumption); obtain ⟨go27, co27, eo27, gb27, gl27, cl27, HG27⟩ := Kd.R_form HO_5.out (by omega); (first | cases eo27 | (injection eo27 with ea_ en_ ec_; (first | subst ea_ | (injection ea_ with ea_; subst ea_)); subst ec_; clear en_)); have GB27 := A_ gb27; have GG27 := A_ HG27; clear gb27 gl27 HG27; (first | simp only [add_plain] at hx303_0 | skip); obtain ⟨hx27_0, hf27_0⟩ := Kd.R_celln 0 HO_5.out ((ji21) : Int) p27 q27; replace p27 := eq_true p27; replace q27 := eq_true q27; obtain ⟨hy29_, hz29_⟩ := Kd.R_celln 0 HO_5.out ((ji21) : Int) (of_decide_eq_true (by first | (with_reducible assumption) | assumption)) (of_decide_eq_true (by first | (with_reducible assumption) | assumption)); have HP29 := Kd.R_putg HO_5.out ((ji21) : Int) (Int.tmod (wrap64 ((wrap64 ((rd x5_2 (ji21)) + (wrap64 ((rd l0 x6_1) * t305)))) + x7_2)) 65536)) | ((with_reducible refine gate_store (t := 3) (p := 56) rfl ?_); (try (rw [drewN_self wr]; generalize hq_ : World.drewN wr _ = wr; replace HO_5 := A_ (Kd.R_at hq_ HO_5.out); replace HB := A_ (below_at hq_ HB.out); clear hq_; (try (obtain ⟨hy29_, hz29_⟩ := Kd.R_celln 0 HO_5.out ((ji21) : Int) (of_decide_eq_true (by first | (with_reducible assumption) | assumption)) (of_decide_eq_true (by first | (with_reducible assumption) | assumption)))); (try (have HP29 := Kd.R_putg HO_5.out ((ji21) : Int) (Int.tmod (wrap64 ((wrap64 ((rd x5_2 (ji21)) + (wrap64 ((rd l0 x6_1) * t305)))) + x7_2)) 65536))))); refine store_event (t := 3) (p := 56) (v := ?vo_w30) (w1 := (wr.setCell ⟨go27, ((ji21) : Int).toNat, none⟩ (.int .i64 (Int.tmod (wrap64 ((wrap64 ((rd x5_2 (ji21)) + (wrap64 ((rd l0 x6_1) * t305)))) + x7_2)) 65536)))) ?hg ?ho ?hn ?hr ?_; (case ho => rfl); (case hg => rfl); (case hn => rfl); (case hr => first | (go_simp; done) | (go_simp; rfl)); intro w30 hw; have hg : wr.grownBy w30 (some go27) := (by rw [hw]; exact HP29.2); have hp_ : Kd.R (Kd.int .i64) 3 w30 w.heap.size (fun _ => True) (.slice (some ⟨go27, 0, none⟩) x5_2.length co28) y306 := (by rw [hw, Ny306.out]; exact HP29.1); clear HP29; replace HO_5 := A_ hp_; replace HB := A_ ((by rw [hw]; exact below_set (HB.out) GB27.out : Below w.heap.size w w30)); clear hg hw hp_)); try go_wp2_with (first | (go_at_call 101; (with_reducible refine (tallystickref04_digit.calls _ _ l1 x8_2 t305 _ ?side1 ?side2 A26.out).mono ?_); (case side1 => repeat (first | exact (Kd.C_below HR1.out HB.out) | (with_reducible refine Kd.C_alloc ?_ _) | (with_reducible refine Kd.C_drewN ?_ _) | (with_reducible refine Kd.C_drew ?_))); (case side2 => exact HC1.out); rintro e w' ⟨rfl, ⟨nd, rfl⟩⟩; (try first | exact ⟨rfl, _, World.drewN_drewN _ _ _⟩ | exact ⟨rfl, _, Eq.trans (World.drewN_drewN _ _ _) (congrArg (World.drewN _) (Nat.add_assoc _ _ _))⟩); have p27 : 0 ≤ ((ji21) : Int) := of_decide_eq_true (by first | (with_reducible assumption) | assumption); have q27 : ((ji21) : Int) < ((x5_2.length : Int) : Int) := of_decide_eq_true (by first | (with_reducible assumption) | assumption); obtain ⟨go27, co27, eo27, gb27, gl27, cl27, HG27⟩ := Kd.R_form HO_5.out (by omega); (first | cases eo27 | (injection eo27 with ea_ en_ ec_; (first | subst ea_ | (injection ea_ with ea_; subst ea_)); subst ec_; clear en_)); have GB27 := A_ gb27; have GG27 := A_ HG27; clear gb27 gl27 HG27; (first | simp only [add_plain] at hx303_0 | skip); obtain ⟨hx27_0, hf27_0⟩ := Kd.R_celln 0 HO_5.out ((ji21) : Int) p27 q27; replace p27 := eq_true p27; replace q27 := eq_true q27; obtain ⟨hy29_, hz29_⟩ := Kd.R_celln 0 HO_5.out ((ji21) : Int) (of_decide_eq_true (by first | (with_reducible assumption) | assumption)) (of_decide_eq_true (by first | (with_reducible assumption) | assumption)); have HP29 := Kd.R_putg HO_5.out ((ji21) : Int) (Int.tmod (wrap64 ((wrap64 ((rd x5_2 (ji21)) + (wrap64 ((rd l0 x6_1) * t305)))) + x7_2)) 65536)) | ((with_reducible refine gate_store (t := 3) (p := 56) rfl ?_); (try (rw [drewN_self wr]; generalize hq_ : World.drewN wr _ = wr; replace HO_5 := A_ (Kd.R_at hq_ HO_5.out); replace HB := A_ (below_at hq_ HB.out); clear hq_; (try (obtain ⟨hy29_, hz29_⟩ := Kd.R_celln 0 HO_5.out ((ji21) : Int) (of_decide_eq_true (by first | (with_reducible assumption) | assumption)) (of_decide_eq_true (by first | (with_reducible assumption) | assumption)))); (try (have HP29 := Kd.R_putg HO_5.out ((ji21) : Int) (Int.tmod (wrap64 ((wrap64 ((rd x5_2 (ji21)) + (wrap64 ((rd l0 x6_1) * t305)))) + x7_2)) 65536))))); refine store_event (t := 3) (p := 56) (v := ?vo_w30) (w1 := (wr.setCell ⟨go27, ((ji21) : Int).toNat, none⟩ (.int .i64 (Int.tmod (wrap64 ((wrap64 ((rd x5_2 (ji21)) + (wrap64 ((rd l0 x6_1) * t305)))) + x7_2)) 65536)))) ?hg ?ho ?hn ?hr ?_; (case ho => rfl); (case hg => rfl); (case hn => rfl); (case hr => first | (go_simp; done) | (go_simp; rfl)); intro w30 hw; have hg : wr.grownBy w30 (some go27) := (by rw [hw]; exact HP29.2); have hp_ : Kd.R (Kd.int .i64) 3 w30 w.heap.size (fun _ => True) (.slice (some ⟨go27, 0, none⟩) x5_2.length co28) y306 := (by rw [hw, Ny306.out]; exact HP29.1); clear HP29; replace HO_5 := A_ hp_; replace HB := A_ ((by rw [hw]; exact below_set (HB.out) GB27.out : Below w.heap.size w w30)); clear hg hw hp_)))
             go_roundg k2
             case measure => have := HK1.out; have := HK2.out; omega
             case rel => exact ⟨(y306), (wrap64 (Int.tdiv (wrap64 ((wrap64 ((rd x5_2 (ji21)) + (wrap64 ((rd l0 x6_1) * t305)))) + x7_2)) 65536)), (wrap64 (x8_2 + 1)), (by first | rfl | (simp; done) | (simp only [← hji21] <;> (first | rfl | simp)) | (simp [*]; done)), (by first | rfl | (simp; done) | (simp [*]; done)), H', ⟨by have := HK1.out; have := HK2.out; omega⟩, ⟨r_ HO_5⟩, ⟨hB_ w⟩⟩
            rw [if_neg c25] at H
            exact absurd H (by simp)
           rw [if_neg c24] at H
           exact absurd H (by simp)
          rw [if_neg c23] at H
          exact absurd H (by simp)
         rw [if_neg c22] at H
         exact absurd H (by simp)
        rw [if_neg c20] at H
        have c20b0 : decide (0 < x7_2) = false := decide_eq_false c20
        clear c20
        have H' := A_ H
        clear H
        go_wp2
        repeat (go_quiet (fail); try go_wp2)
        go_roundg k2
        case measure => have := HK1.out; have := HK2.out; omega
        case rel => exact ⟨(x5_2), (wrap64 (x6_1 + 1)), (by first | rfl | (simp; done) | (simp [*]; done)), H', ⟨by have := HK1.out; have := HK2.out; omega⟩, ⟨r_ HO_5⟩, ⟨hB_ w⟩⟩
     rw [if_neg c8] at H
     have c8b0 : decide (x6_1 < (l0.length : Int)) = false := decide_eq_false c8
     clear c8
     replace H := Option.bind_eq_some_iff.mp H
     obtain ⟨t296, A310, H⟩ := H
     replace H : (some t296) = some r := H
     have A31 := A_ A310; clear A310
     obtain rfl := Option.some.inj H
     obtain ⟨Ao32, co32, eo32⟩ := Kd.R_slice HO_5.out
     subst eo32
     go_wp2_with (first | (go_at_call 84; (with_reducible refine (tallystickref04_Trim.calls k1 _ _ x5_1 t296 _ ?side1 ?side2 A31.out).mono ?_); (case side1 => repeat (first | exact (Kd.R_reads' HO_5.out).2.2 | (with_reducible refine Kd.C_alloc ?_ _) | (with_reducible refine Kd.C_drewN ?_ _) | (with_reducible refine Kd.C_drew ?_))); (case side2 => exact (Kd.R_reads' HO_5.out).2.1); rintro e w33 ⟨v297, rfl, ho0, hb⟩; have HO298 := A_ (Kd.R_lower (Kd.R_new' ho0 (Kd.R_lt (r_ HO_5))) (below_size (hB_ w))); replace HO_5 := A_ (Kd.R_elder' (r_ HO_5) (Kd.R_base ho0) hb); replace HB := A_ (below_step (hB_ w) hb); (try clear hb); (try clear hb2); (try clear hk); (try clear hi); (try clear ho0)))
     repeat (go_quiet (first | (go_at_call 84; (with_reducible refine (tallystickref04_Trim.calls k1 _ _ x5_1 t296 _ ?side1 ?side2 A31.out).mono ?_); (case side1 => repeat (first | exact (Kd.R_reads' HO_5.out).2.2 | (with_reducible refine Kd.C_alloc ?_ _) | (with_reducible refine Kd.C_drewN ?_ _) | (with_reducible refine Kd.C_drew ?_))); (case side2 => exact (Kd.R_reads' HO_5.out).2.1); rintro e w33 ⟨v297, rfl, ho0, hb⟩; have HO298 := A_ (Kd.R_lower (Kd.R_new' ho0 (Kd.R_lt (r_ HO_5))) (below_size (hB_ w))); replace HO_5 := A_ (Kd.R_elder' (r_ HO_5) (Kd.R_base ho0) hb); replace HB := A_ (below_step (hB_ w) hb); (try clear hb); (try clear hb2); (try clear hk); (try clear hi); (try clear ho0))); try go_wp2_with (first | (go_at_call 84; (with_reducible refine (tallystickref04_Trim.calls k1 _ _ x5_1 t296 _ ?side1 ?side2 A31.out).mono ?_); (case side1 => repeat (first | exact (Kd.R_reads' HO_5.out).2.2 | (with_reducible refine Kd.C_alloc ?_ _) | (with_reducible refine Kd.C_drewN ?_ _) | (with_reducible refine Kd.C_drew ?_))); (case side2 => exact (Kd.R_reads' HO_5.out).2.1); rintro e w33 ⟨v297, rfl, ho0, hb⟩; have HO298 := A_ (Kd.R_lower (Kd.R_new' ho0 (Kd.R_lt (r_ HO_5))) (below_size (hB_ w))); replace HO_5 := A_ (Kd.R_elder' (r_ HO_5) (Kd.R_base ho0) hb); replace HB := A_ (below_step (hB_ w) hb); (try clear hb); (try clear hb2); (try clear hk); (try clear hi); (try clear ho0))))
     go_ret
     exact ⟨_, by first | rfl | (simp [errW_none, errW_some] <;> rfl) | (simp only [← hji3]; first | rfl | (simp [errW_none, errW_some] <;> rfl)) | (simp [*, errW_none, errW_some] <;> rfl), Kd.R_mono (r_ HO298) (fun _ hk => trivial), hB_ w⟩
  rw [if_neg c5] at H
  exact absurd H (by simp)
 rw [if_neg c4] at H
 exact absurd H (by simp)

end Go.Proofs.Ytbpobnlkfpjijaa.Pr
end
-- Pr48
section
namespace Go.Proofs.Ytbpobnlkfpjijaa.Pr
open Go.RowKit Go.Proofs.YtbpobnlkfpjijaaW.PrintWords Go.Proofs.YtbpobnlkfpjijaaW.PrintLast Go.Proofs.YtbpobnlkfpjijaaW.PrintMore
attribute [local go_sem] max2_int min2_int max_two min_two max_three min_three max_four min_four   -- for this text's walks alone
set_option linter.unusedVariables false
set_option linter.unusedSimpArgs false

attribute [local go_sem] Go.Proofs.Aid.cell_set_row
def tallystickref17_num.l0 : Nat → List Int → List Int → Int → Option (List Int)
 | 0, _, _, _ => none
 | k + 1, x0, x3, x4 => if x4 < (x0.length : Int) then (if 0 ≤ x4 then ((tallystickref04_Digits.f k (([rd x0 x4] : List Int))).bind fun t314 => ((tallystickref04_Mul.f k x3 t314).bind fun t317 => (tallystickref17_num.l0 k x0 t317 (wrap64 (x4 + 1))))) else (none)) else ((tallystickref04_Words.f k x3).bind fun t320 => (some t320))
def tallystickref17_num.f (k : Nat) (l0 : List Int) : Option (List Int) := tallystickref17_num.l0 k l0 (([1] : List Int)) 0
theorem tallystickref17_num.mono_l : ∀ k, (∀ y0 y1 y2, LeO (tallystickref17_num.l0 k y0 y1 y2) (tallystickref17_num.l0 (k + 1) y0 y1 y2))
 | 0 => fun _ _ _ r h => by simp [tallystickref17_num.l0] at h
 | k + 1 => by
  have ih0 := tallystickref17_num.mono_l k
  intro y0 y1 y2
  unfold tallystickref17_num.l0
  repeat' first
  | (with_reducible exact ih0 _ _ _)
  | (with_reducible exact tallystickref04_Digits.mono _ _)
  | (with_reducible exact tallystickref04_Mul.mono _ _ _)
  | (with_reducible exact tallystickref04_Words.mono _ _)
  | (with_reducible exact LeO.refl _)
  | (with_reducible exact LeO.none _)
  | (with_reducible refine LeO.ite ?_ ?_)
  | (with_reducible refine LeO.bind ?_ (fun _ => ?_))
  | exact ih0 _ _ _
  | exact tallystickref04_Digits.mono _ _
  | exact tallystickref04_Mul.mono _ _ _
  | exact tallystickref04_Words.mono _ _
  | exact LeO.none _
  | refine LeO.ite ?_ ?_
  | refine LeO.bind ?_ (fun _ => ?_)
theorem tallystickref17_num.mono : ∀ a0 k, LeO (tallystickref17_num.f k a0) (tallystickref17_num.f (k + 1) a0) := by
 intro a0 k
 have ih0 := tallystickref17_num.mono_l k
 unfold tallystickref17_num.f
 repeat' first
   | (with_reducible exact ih0 _ _ _)
   | (with_reducible exact tallystickref04_Digits.mono _ _)
   | (with_reducible exact tallystickref04_Mul.mono _ _ _)
   | (with_reducible exact tallystickref04_Words.mono _ _)
   | (with_reducible exact LeO.refl _)
   | (with_reducible exact LeO.none _)
   | (with_reducible refine LeO.ite ?_ ?_)
   | (with_reducible refine LeO.bind ?_ (fun _ => ?_))
   | exact ih0 _ _ _
   | exact tallystickref04_Digits.mono _ _
   | exact tallystickref04_Mul.mono _ _ _
   | exact tallystickref04_Words.mono _ _
   | exact LeO.none _
   | refine LeO.ite ?_ ?_
   | refine LeO.bind ?_ (fun _ => ?_)
set_option maxHeartbeats 8000000 in
set_option maxRecDepth 100000 in
theorem tallystickref17_num.calls (k : Nat) (A0 : Option Addr) (c0 : Nat) (l0 : List Int) (r : List Int) (w : World) (hr0 : Kd.C (Kd.int .u64) w A0 l0.length l0) (hc0 : l0.length ≤ c0) (h : tallystickref17_num.f k l0 = some r) :
  Calls Try.prog 58 #[.slice A0 l0.length c0] w fun e w' => ∃ v0_ : Value, e = .returned (v0_) ∧ Kd.R (Kd.int .u64) 57 w' w.heap.size (fun _ => True) v0_ r ∧ Below w.heap.size w w' := by
 have HR0 := A_ hr0; have HC0 := A_ hc0; clear hr0 hc0; have HB := A_ (Below.refl w.heap.size w)
 have H : (tallystickref17_num.l0 k l0 (([1] : List Int)) 0) = some r := h
 clear h
 obtain ⟨y307, hy307⟩ : ∃ y_ : List Int, y_ = (([1] : List Int)) := ⟨_, rfl⟩
 replace H : (tallystickref17_num.l0 k l0 y307 0) = some r := by first | (rw [hy307]; with_reducible exact H) | (have H2_ := (Option.bind_some _ _).symm.trans H; rw [hy307]; with_reducible exact H2_) | (have H2_ := (Option.bind_some _ _).symm.trans H; with_reducible exact H2_) | with_reducible exact H | (rw [hy307]; exact H) | exact H
 have Ny307 := A_ hy307; clear hy307
 have H' := A_ H
 clear H
 go_enter Try.func58, Try.ntmps58
 go_wp2_with (first | ((with_reducible refine gate_dst (N := 5) rfl ?_); refine Kd.R_lit (Kd.int .i64) _ 3 ?hg (N := 5) ?hd (xs := ([1] : List Int)) (inner := [.int .i64 1]) (ok := fun _ => True) (okp := fun _ => True) ?hr ?hp (fun _ hk => hk) trivial (Below.refl _ _) (Nat.le_refl _) (by simp) ?_; (case hd => rfl); (case hg => rfl); (case hr => first | (go_simp; done) | (go_simp; rfl)); (case hp => exact (Reps.one (show Kd.M (Kd.int .i64) _ _ _ 1 [.int .i64 1] from rfl) (Reps.none _ _))); intro v308 w2 ho3 hb hg_ hnew_; clear hg_ hnew_; (first | rw [← Ny307.out] at ho3 | (simp only [Int.reduceToNat] at ho3; rw [← Ny307.out] at ho3)); have HO309 := A_ (Kd.R_lower ho3 (below_size (hB_ w))); replace HB := A_ (below_step (hB_ w) hb); clear hb ho3))
 go_loopg [3, 4] k (fun kq v3 v4 w' => ∃ (x3_1 : List Int) (x4_1 : Int), v4 = .int .i64 x4_1 ∧ AsC (tallystickref17_num.l0 kq l0 x3_1 x4_1 = some r) ∧ AsC (kq ≤ k) ∧ AsC (Kd.R (Kd.int .i64) 3 w' w.heap.size (fun _ => True) v3 x3_1) ∧ AsC (Below w.heap.size w w'))
 case atStart => exact ⟨(y307), (0), (by first | rfl | (simp; done) | (simp [*]; done)), H', ⟨Nat.le_refl _⟩, ⟨r_ HO309⟩, ⟨hB_ w⟩⟩
 case round =>
  clear H'; try clear p2
  obtain ⟨x3_1, x4_1, rfl, HA, HK1, HO_3, HB⟩ := hrel
  cases gk with
  | zero => exact absurd HA.out (by simp [tallystickref17_num.l0])
  | succ k1 =>
   have H := HA.out; clear HA
   simp only [tallystickref17_num.l0] at H
   by_cases c4 : x4_1 < (l0.length : Int)
   ·rw [if_pos c4] at H
    have c4b0 : decide (x4_1 < (l0.length : Int)) = true := decide_eq_true c4
    clear c4
    by_cases c5 : 0 ≤ x4_1
    ·rw [if_pos c5] at H
     have c5b0 : decide (0 ≤ x4_1) = true := decide_eq_true c5
     clear c5
     obtain ⟨y311, hy311⟩ : ∃ y_ : List Int, y_ = (([rd l0 x4_1] : List Int)) := ⟨_, rfl⟩
     replace H : ((tallystickref04_Digits.f k1 y311).bind fun t314 => ((tallystickref04_Mul.f k1 x3_1 t314).bind fun t317 => (tallystickref17_num.l0 k1 l0 t317 (wrap64 (x4_1 + 1))))) = some r := by first | (rw [hy311]; with_reducible exact H) | (have H2_ := (Option.bind_some _ _).symm.trans H; rw [hy311]; with_reducible exact H2_) | (have H2_ := (Option.bind_some _ _).symm.trans H; with_reducible exact H2_) | with_reducible exact H | (rw [hy311]; exact H) | exact H
     have Ny311 := A_ hy311; clear hy311
     replace H := Option.bind_eq_some_iff.mp H
     obtain ⟨t314, A60, H⟩ := H
     replace H : ((tallystickref04_Mul.f k1 x3_1 t314).bind fun t317 => (tallystickref17_num.l0 k1 l0 t317 (wrap64 (x4_1 + 1)))) = some r := H
     have A6 := A_ A60; clear A60
     replace H := Option.bind_eq_some_iff.mp H
     obtain ⟨t317, A70, H⟩ := H
     replace H : (tallystickref17_num.l0 k1 l0 t317 (wrap64 (x4_1 + 1))) = some r := H
     have A7 := A_ A70; clear A70
     have H' := A_ H
     clear H
     have p310 : 0 ≤ (x4_1 : Int) := of_decide_eq_true (by first | (with_reducible assumption) | assumption)
     have q310 : x4_1 < (l0.length : Int) := of_decide_eq_true (by first | (with_reducible assumption) | assumption)
     obtain ⟨ad310, e310, hx310_0⟩ := Kd.at_int HR0.out x4_1 p310 q310
     cases e310
     replace hx310_0 := (HB.out.cell (World.block_lt_of_cell? w _ hx310_0)).trans hx310_0
     replace p310 := eq_true p310
     replace q310 := eq_true q310
     go_wp2_with (first | ((with_reducible refine gate_dst (N := 17) rfl ?_); refine Kd.R_lit (Kd.int .u64) _ 57 ?hg (N := 17) ?hd (xs := ([rd l0 x4_1] : List Int)) (inner := [.int .u64 (rd l0 x4_1)]) (ok := fun _ => True) (okp := fun _ => True) ?hr ?hp (fun _ hk => hk) trivial (Below.refl _ _) (Nat.le_refl _) (by simp) ?_; (case hd => rfl); (case hg => rfl); (case hr => first | (go_simp; done) | (go_simp; rfl)); (case hp => exact (Reps.one (show Kd.M (Kd.int .u64) _ _ _ (rd l0 x4_1) [.int .u64 (rd l0 x4_1)] from rfl) (Reps.none _ _))); intro v312 w8 ho9 hb hg_ hnew_; clear hg_ hnew_; (first | rw [← Ny311.out] at ho9 | (simp only [Int.reduceToNat] at ho9; rw [← Ny311.out] at ho9)); replace HO_3 := A_ (Kd.R_below (r_ HO_3) hb); have HO313 := A_ (Kd.R_lower ho9 (below_size (hB_ w))); replace HB := A_ (below_step (hB_ w) hb); clear hb ho9; obtain ⟨Ao10, co10, eo10⟩ := Kd.R_slice HO313.out; subst eo10) | ((with_reducible refine gate_callee (f := 62) rfl ?_); refine goesL_ (some 18) rfl rfl Try.func62 (by kernel_rfl) rfl #[.slice Ao10 y311.length co10] rfl (by (try simp only [List.map_toArray, List.map_cons, List.map_nil]); first | done | rfl | (simp only [List.length_drop, List.length_take]; rfl)) ?_; (with_reducible refine (tallystickref04_Digits.calls k1 _ _ y311 t314 _ ?side1 ?side2 A6.out).mono ?_); (case side1 => repeat (first | exact (Kd.R_reads' HO313.out).2.2 | (with_reducible refine Kd.C_alloc ?_ _) | (with_reducible refine Kd.C_drewN ?_ _) | (with_reducible refine Kd.C_drew ?_))); (case side2 => exact (Kd.R_reads' HO313.out).2.1); rintro e w11 ⟨v315, rfl, ho0, hb⟩; refine ⟨_, rfl, ?_⟩; replace HO313 := A_ (Kd.R_below (r_ HO313) hb); have HO316 := A_ (Kd.R_lower (Kd.R_new' ho0 (Kd.R_lt (r_ HO_3))) (below_size (hB_ w))); replace HO_3 := A_ (Kd.R_elder' (r_ HO_3) (Kd.R_base ho0) hb); replace HB := A_ (below_step (hB_ w) hb); (try clear hb); (try clear hb2); (try clear hk); (try clear hi); (try clear ho0); obtain ⟨Ao12, co12, eo12⟩ := Kd.R_slice HO_3.out; subst eo12; obtain ⟨Ao13, co13, eo13⟩ := Kd.R_slice HO316.out; subst eo13) | ((with_reducible refine gate_callee (f := 79) rfl ?_); refine goesL_ (some 19) rfl rfl Try.func79 (by kernel_rfl) rfl #[.slice Ao12 x3_1.length co12, .slice Ao13 t314.length co13] rfl (by (try simp only [List.map_toArray, List.map_cons, List.map_nil]); first | done | rfl | (simp only [List.length_drop, List.length_take]; rfl)) ?_; (with_reducible refine (tallystickref04_Mul.calls k1 _ _ x3_1 _ _ t314 t317 _ ?side1 ?side2 ?side3 ?side4 A7.out).mono ?_); (case side1 => repeat (first | exact (Kd.R_reads' HO_3.out).2.2 | (with_reducible refine Kd.C_alloc ?_ _) | (with_reducible refine Kd.C_drewN ?_ _) | (with_reducible refine Kd.C_drew ?_))); (case side2 => exact (Kd.R_reads' HO_3.out).2.1); (case side3 => repeat (first | exact (Kd.R_reads' HO316.out).2.2 | (with_reducible refine Kd.C_alloc ?_ _) | (with_reducible refine Kd.C_drewN ?_ _) | (with_reducible refine Kd.C_drew ?_))); (case side4 => exact (Kd.R_reads' HO316.out).2.1); rintro e w14 ⟨v318, rfl, ho0, hb⟩; refine ⟨_, rfl, ?_⟩; replace HO313 := A_ (Kd.R_below (r_ HO313) hb); have HO319 := A_ (Kd.R_lower (Kd.R_new' (Kd.R_new' ho0 (Kd.R_lt (r_ HO_3))) (Kd.R_lt (r_ HO316))) (below_size (hB_ w))); replace HO_3 := A_ (Kd.R_elder' (r_ HO_3) (Kd.R_base ho0) hb); replace HO316 := A_ (Kd.R_elder' (r_ HO316) (Kd.R_base ho0) hb); replace HB := A_ (below_step (hB_ w) hb); (try clear hb); (try clear hb2); (try clear hk); (try clear hi); (try clear ho0)))
     go_roundg k1
     case measure => have := HK1.out; omega
     case rel => exact ⟨(t317), (wrap64 (x4_1 + 1)), (by first | rfl | (simp; done) | (simp [*]; done)), H', ⟨by have := HK1.out; omega⟩, ⟨Kd.R_mono (r_ HO319) (fun _ hk => trivial)⟩, ⟨hB_ w⟩⟩
    rw [if_neg c5] at H
    exact absurd H (by simp)
   rw [if_neg c4] at H
   have c4b0 : decide (x4_1 < (l0.length : Int)) = false := decide_eq_false c4
   clear c4
   replace H := Option.bind_eq_some_iff.mp H
   obtain ⟨t320, A150, H⟩ := H
   replace H : (some t320) = some r := H
   have A15 := A_ A150; clear A150
   obtain rfl := Option.some.inj H
   obtain ⟨Ao16, co16, eo16⟩ := Kd.R_slice HO_3.out
   subst eo16
   go_wp2_with (first | ((with_reducible refine gate_callee (f := 63) rfl ?_); refine goesL_ (some 21) rfl rfl Try.func63 (by kernel_rfl) rfl #[.slice Ao16 x3_1.length co16] rfl (by (try simp only [List.map_toArray, List.map_cons, List.map_nil]); first | done | rfl | (simp only [List.length_drop, List.length_take]; rfl)) ?_; (with_reducible refine (tallystickref04_Words.calls k1 _ _ x3_1 t320 _ ?side1 ?side2 A15.out).mono ?_); (case side1 => repeat (first | exact (Kd.R_reads' HO_3.out).2.2 | (with_reducible refine Kd.C_alloc ?_ _) | (with_reducible refine Kd.C_drewN ?_ _) | (with_reducible refine Kd.C_drew ?_))); (case side2 => exact (Kd.R_reads' HO_3.out).2.1); rintro e w17 ⟨v321, rfl, ho0, hb⟩; refine ⟨_, rfl, ?_⟩; replace HO_3 := A_ (Kd.R_below (r_ HO_3) hb); have HO322 := A_ (Kd.R_lower ho0 (below_size (hB_ w))); replace HB := A_ (below_step (hB_ w) hb); (try clear hb); (try clear hb2); (try clear hk); (try clear hi); (try clear ho0)))
   go_ret
   exact ⟨_, by first | rfl | (simp [errW_none, errW_some] <;> rfl) | (simp [*, errW_none, errW_some] <;> rfl), by (with_reducible repeat (first|apply rA_|apply rN_|apply rD_)); exact HO322.out, hB_ w⟩

end Go.Proofs.Ytbpobnlkfpjijaa.Pr
end
-- Pr49
section
namespace Go.Proofs.Ytbpobnlkfpjijaa.Pr
open Go.RowKit Go.Proofs.YtbpobnlkfpjijaaW.PrintWords Go.Proofs.YtbpobnlkfpjijaaW.PrintLast Go.Proofs.YtbpobnlkfpjijaaW.PrintMore
attribute [local go_sem] max2_int min2_int max_two min_two max_three min_three max_four min_four   -- for this text's walks alone
set_option linter.unusedVariables false
set_option linter.unusedSimpArgs false

attribute [local go_sem] Go.Proofs.Aid.cell_set_row
def tallystickref05_Times.f (k : Nat) (l0 : List Int) (l1 : List Int) : Option (List Int) := (tallystickref04_Digits.f k l0).bind fun t323 => ((tallystickref04_Digits.f k l1).bind fun t326 => ((tallystickref04_Mul.f k t323 t326).bind fun t329 => ((tallystickref04_Words.f k t329).bind fun t332 => (some t332))))
theorem tallystickref05_Times.mono : ∀ a0 a1 k, LeO (tallystickref05_Times.f k a0 a1) (tallystickref05_Times.f (k + 1) a0 a1) := by
 intro a0 a1 k
 unfold tallystickref05_Times.f
 repeat' first
   | (with_reducible exact tallystickref04_Digits.mono _ _)
   | (with_reducible exact tallystickref04_Mul.mono _ _ _)
   | (with_reducible exact tallystickref04_Words.mono _ _)
   | (with_reducible exact LeO.refl _)
   | (with_reducible exact LeO.none _)
   | (with_reducible refine LeO.ite ?_ ?_)
   | (with_reducible refine LeO.bind ?_ (fun _ => ?_))
   | exact tallystickref04_Digits.mono _ _
   | exact tallystickref04_Mul.mono _ _ _
   | exact tallystickref04_Words.mono _ _
   | exact LeO.none _
   | refine LeO.ite ?_ ?_
   | refine LeO.bind ?_ (fun _ => ?_)
set_option maxHeartbeats 8000000 in
set_option maxRecDepth 100000 in
theorem tallystickref05_Times.calls (k : Nat) (A0 : Option Addr) (c0 : Nat) (l0 : List Int) (A1 : Option Addr) (c1 : Nat) (l1 : List Int) (r : List Int) (w : World) (hr0 : Kd.C (Kd.int .u64) w A0 l0.length l0) (hc0 : l0.length ≤ c0) (hr1 : Kd.C (Kd.int .u64) w A1 l1.length l1) (hc1 : l1.length ≤ c1) (h : tallystickref05_Times.f k l0 l1 = some r) :
  Calls Try.prog 59 #[.slice A0 l0.length c0, .slice A1 l1.length c1] w fun e w' => ∃ v0_ : Value, e = .returned (v0_) ∧ Kd.R (Kd.int .u64) 57 w' w.heap.size (fun _ => True) v0_ r ∧ Below w.heap.size w w' := by
 have HR0 := A_ hr0; have HC0 := A_ hc0; clear hr0 hc0; have HR1 := A_ hr1; have HC1 := A_ hc1; clear hr1 hc1; have HB := A_ (Below.refl w.heap.size w)
 have H : ((tallystickref04_Digits.f k l0).bind fun t323 => ((tallystickref04_Digits.f k l1).bind fun t326 => ((tallystickref04_Mul.f k t323 t326).bind fun t329 => ((tallystickref04_Words.f k t329).bind fun t332 => (some t332))))) = some r := h
 clear h
 replace H := Option.bind_eq_some_iff.mp H
 obtain ⟨t323, A30, H⟩ := H
 replace H : ((tallystickref04_Digits.f k l1).bind fun t326 => ((tallystickref04_Mul.f k t323 t326).bind fun t329 => ((tallystickref04_Words.f k t329).bind fun t332 => (some t332)))) = some r := H
 have A3 := A_ A30; clear A30
 replace H := Option.bind_eq_some_iff.mp H
 obtain ⟨t326, A40, H⟩ := H
 replace H : ((tallystickref04_Mul.f k t323 t326).bind fun t329 => ((tallystickref04_Words.f k t329).bind fun t332 => (some t332))) = some r := H
 have A4 := A_ A40; clear A40
 replace H := Option.bind_eq_some_iff.mp H
 obtain ⟨t329, A50, H⟩ := H
 replace H : ((tallystickref04_Words.f k t329).bind fun t332 => (some t332)) = some r := H
 have A5 := A_ A50; clear A50
 replace H := Option.bind_eq_some_iff.mp H
 obtain ⟨t332, A60, H⟩ := H
 replace H : (some t332) = some r := H
 have A6 := A_ A60; clear A60
 obtain rfl := Option.some.inj H
 go_enter Try.func59, Try.ntmps59
 go_wp2_with (first | ((with_reducible refine gate_callee (f := 62) rfl ?_); refine goesL_ (some 6) rfl rfl Try.func62 (by kernel_rfl) rfl #[.slice A0 l0.length c0] rfl (by (try simp only [List.map_toArray, List.map_cons, List.map_nil]); first | done | rfl | (simp only [List.length_drop, List.length_take]; rfl)) ?_; (with_reducible refine (tallystickref04_Digits.calls k _ _ l0 t323 _ ?side1 ?side2 A3.out).mono ?_); (case side1 => repeat (first | exact HR0.out | (with_reducible refine Kd.C_alloc ?_ _) | (with_reducible refine Kd.C_drewN ?_ _) | (with_reducible refine Kd.C_drew ?_))); (case side2 => exact HC0.out); rintro e w7 ⟨v324, rfl, ho0, hb⟩; refine ⟨_, rfl, ?_⟩; have HO325 := A_ (Kd.R_lower ho0 (below_size (hB_ w))); replace HB := A_ (below_step (hB_ w) hb); (try clear hb); (try clear hb2); (try clear hk); (try clear hi); (try clear ho0)) | ((with_reducible refine gate_callee (f := 62) rfl ?_); refine goesL_ (some 8) rfl rfl Try.func62 (by kernel_rfl) rfl #[.slice A1 l1.length c1] rfl (by (try simp only [List.map_toArray, List.map_cons, List.map_nil]); first | done | rfl | (simp only [List.length_drop, List.length_take]; rfl)) ?_; (with_reducible refine (tallystickref04_Digits.calls k _ _ l1 t326 _ ?side1 ?side2 A4.out).mono ?_); (case side1 => repeat (first | exact (Kd.C_below HR1.out HB.out) | (with_reducible refine Kd.C_alloc ?_ _) | (with_reducible refine Kd.C_drewN ?_ _) | (with_reducible refine Kd.C_drew ?_))); (case side2 => exact HC1.out); rintro e w8 ⟨v327, rfl, ho0, hb⟩; refine ⟨_, rfl, ?_⟩; have HO328 := A_ (Kd.R_lower (Kd.R_new' ho0 (Kd.R_lt (r_ HO325))) (below_size (hB_ w))); replace HO325 := A_ (Kd.R_elder' (r_ HO325) (Kd.R_base ho0) hb); replace HB := A_ (below_step (hB_ w) hb); (try clear hb); (try clear hb2); (try clear hk); (try clear hi); (try clear ho0); obtain ⟨Ao9, co9, eo9⟩ := Kd.R_slice HO325.out; subst eo9; obtain ⟨Ao10, co10, eo10⟩ := Kd.R_slice HO328.out; subst eo10) | ((with_reducible refine gate_callee (f := 79) rfl ?_); refine goesL_ (some 9) rfl rfl Try.func79 (by kernel_rfl) rfl #[.slice Ao9 t323.length co9, .slice Ao10 t326.length co10] rfl (by (try simp only [List.map_toArray, List.map_cons, List.map_nil]); first | done | rfl | (simp only [List.length_drop, List.length_take]; rfl)) ?_; (with_reducible refine (tallystickref04_Mul.calls k _ _ t323 _ _ t326 t329 _ ?side1 ?side2 ?side3 ?side4 A5.out).mono ?_); (case side1 => repeat (first | exact (Kd.R_reads' HO325.out).2.2 | (with_reducible refine Kd.C_alloc ?_ _) | (with_reducible refine Kd.C_drewN ?_ _) | (with_reducible refine Kd.C_drew ?_))); (case side2 => exact (Kd.R_reads' HO325.out).2.1); (case side3 => repeat (first | exact (Kd.R_reads' HO328.out).2.2 | (with_reducible refine Kd.C_alloc ?_ _) | (with_reducible refine Kd.C_drewN ?_ _) | (with_reducible refine Kd.C_drew ?_))); (case side4 => exact (Kd.R_reads' HO328.out).2.1); rintro e w11 ⟨v330, rfl, ho0, hb⟩; refine ⟨_, rfl, ?_⟩; have HO331 := A_ (Kd.R_lower (Kd.R_new' (Kd.R_new' ho0 (Kd.R_lt (r_ HO325))) (Kd.R_lt (r_ HO328))) (below_size (hB_ w))); replace HO325 := A_ (Kd.R_elder' (r_ HO325) (Kd.R_base ho0) hb); replace HO328 := A_ (Kd.R_elder' (r_ HO328) (Kd.R_base ho0) hb); replace HB := A_ (below_step (hB_ w) hb); (try clear hb); (try clear hb2); (try clear hk); (try clear hi); (try clear ho0); obtain ⟨Ao12, co12, eo12⟩ := Kd.R_slice HO331.out; subst eo12) | ((with_reducible refine gate_callee (f := 63) rfl ?_); refine goesL_ (some 10) rfl rfl Try.func63 (by kernel_rfl) rfl #[.slice Ao12 t329.length co12] rfl (by (try simp only [List.map_toArray, List.map_cons, List.map_nil]); first | done | rfl | (simp only [List.length_drop, List.length_take]; rfl)) ?_; (with_reducible refine (tallystickref04_Words.calls k _ _ t329 t332 _ ?side1 ?side2 A6.out).mono ?_); (case side1 => repeat (first | exact (Kd.R_reads' HO331.out).2.2 | (with_reducible refine Kd.C_alloc ?_ _) | (with_reducible refine Kd.C_drewN ?_ _) | (with_reducible refine Kd.C_drew ?_))); (case side2 => exact (Kd.R_reads' HO331.out).2.1); rintro e w13 ⟨v333, rfl, ho0, hb⟩; refine ⟨_, rfl, ?_⟩; replace HO325 := A_ (Kd.R_below (r_ HO325) hb); replace HO328 := A_ (Kd.R_below (r_ HO328) hb); replace HO331 := A_ (Kd.R_below (r_ HO331) hb); have HO334 := A_ (Kd.R_lower ho0 (below_size (hB_ w))); replace HB := A_ (below_step (hB_ w) hb); (try clear hb); (try clear hb2); (try clear hk); (try clear hi); (try clear ho0)))
 go_ret
 exact ⟨_, by first | rfl | (simp [errW_none, errW_some] <;> rfl) | (simp [*, errW_none, errW_some] <;> rfl), by (with_reducible repeat (first|apply rA_|apply rN_|apply rD_)); exact HO334.out, hB_ w⟩

end Go.Proofs.Ytbpobnlkfpjijaa.Pr
end
