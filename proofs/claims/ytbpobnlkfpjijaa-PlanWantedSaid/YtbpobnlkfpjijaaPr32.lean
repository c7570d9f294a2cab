-- Laid by a program (wip/pr.sh), out of the translation.
import Derived.Test.YtbpobnlkfpjijaaPr0
import Derived.Test.YtbpobnlkfpjijaaPr1
import Derived.Test.YtbpobnlkfpjijaaPr31
namespace Go.Proofs.Ytbpobnlkfpjijaa.Pr
open Go.RowKit Go.Proofs.YtbpobnlkfpjijaaW.PrintWords Go.Proofs.YtbpobnlkfpjijaaW.PrintLast Go.Proofs.YtbpobnlkfpjijaaW.PrintMore
attribute [local go_sem] max2_int min2_int max_two min_two max_three min_three max_four min_four   -- for this text's walks alone
set_option linter.unusedVariables false
set_option linter.unusedSimpArgs false

attribute [local go_sem] Go.Proofs.Aid.cell_set_row
attribute [local go_sem high] eqA29
/-! ### tallysticklaw19_shown: function 12 -/
def tallysticklaw19_shown.f (k : Nat)  : Option (Bool) := (plan_Pieces.f k 1 5 8).bind fun t220 => (if (t220.length : Int) = 3 then (if 0 < (t220.length : Int) then (if (((rd_T29 t220 0).f0) == 0 && (((rd_T29 t220 0).f1) == 8)) = true then (if 2 < (t220.length : Int) then (some (((rd_T29 t220 2).f0) == 16 && (((rd_T29 t220 2).f1) == 18))) else (none)) else (some false)) else (none)) else (some false))
theorem tallysticklaw19_shown.mono : ∀ k, LeO (tallysticklaw19_shown.f k ) (tallysticklaw19_shown.f (k + 1) ) := by
  intro  k
  unfold tallysticklaw19_shown.f
  repeat' first
      | (with_reducible exact plan_Pieces.mono _ _ _ _)
      | (with_reducible exact LeO.refl _)
      | (with_reducible exact LeO.none _)
      | (with_reducible refine LeO.ite ?_ ?_)
      | (with_reducible refine LeO.bind ?_ (fun _ => ?_))
      | exact plan_Pieces.mono _ _ _ _
      | exact LeO.none _
      | refine LeO.ite ?_ ?_
      | refine LeO.bind ?_ (fun _ => ?_)
set_option maxHeartbeats 8000000 in
set_option maxRecDepth 100000 in
theorem tallysticklaw19_shown.calls (k : Nat)  (r : Bool) (w : World) (h : tallysticklaw19_shown.f k  = some r) :
    Calls Try.prog 12 #[] w fun e w' => e = .returned (.bool r) ∧ Below w.heap.size w w' := by
  have hu23 := Try.underlying23
  have hu29 := Try.underlying29
  have HB := Aside0.mk (Below.refl w.heap.size w)
  have H : ((plan_Pieces.f k 1 5 8).bind fun t220 => (if (t220.length : Int) = 3 then (if 0 < (t220.length : Int) then (if (((rd_T29 t220 0).f0) == 0 && (((rd_T29 t220 0).f1) == 8)) = true then (if 2 < (t220.length : Int) then (some (((rd_T29 t220 2).f0) == 16 && (((rd_T29 t220 2).f1) == 18))) else (none)) else (some false)) else (none)) else (some false))) = some r := h
  clear h
  replace H := Option.bind_eq_some_iff.mp H
  obtain ⟨t220, A10, H⟩ := H
  replace H : (if (t220.length : Int) = 3 then (if 0 < (t220.length : Int) then (if (((rd_T29 t220 0).f0) == 0 && (((rd_T29 t220 0).f1) == 8)) = true then (if 2 < (t220.length : Int) then (some (((rd_T29 t220 2).f0) == 16 && (((rd_T29 t220 2).f1) == 18))) else (none)) else (some false)) else (none)) else (some false)) = some r := H
  have A1 := Aside0.mk A10
  clear A10
  by_cases c2 : (t220.length : Int) = 3
  · rw [if_pos c2] at H
    have c2b0 : ((t220.length : Int) == 3) = true := beq_iff_eq.mpr c2
    have c2b1 : ((t220.length : Int) != 3) = false := bne_eq_false_iff_eq.mpr c2
    clear c2
    by_cases c3 : 0 < (t220.length : Int)
    · rw [if_pos c3] at H
      have c3b0 : decide (0 < (t220.length : Int)) = true := decide_eq_true c3
      have c3b1 : decide (0 < t220.length) = true := decide_eq_true (by omega)
      clear c3
      by_cases c4 : (((rd_T29 t220 0).f0) == 0 && (((rd_T29 t220 0).f1) == 8)) = true
      · rw [if_pos c4] at H
        have c4b0 : (((rd_T29 t220 0).f0) == 0 && (((rd_T29 t220 0).f1) == 8)) = true := c4
        (try (have c4b1 : decide (((rd_T29 t220 0).f0) = 0 && (((rd_T29 t220 0).f1) == 8)) = true := by simpa using c4))
        (try (have c4b2 : (((rd_T29 t220 0).f0) == 0 && (((rd_T29 t220 0).f1) == 8)) = true := by simpa using c4))
        clear c4
        by_cases c5 : 2 < (t220.length : Int)
        · rw [if_pos c5] at H
          have c5b0 : decide (2 < (t220.length : Int)) = true := decide_eq_true c5
          have c5b1 : decide (2 < t220.length) = true := decide_eq_true (by omega)
          clear c5
          obtain rfl := Option.some.inj H
          go_enter Try.func12, Try.ntmps12
          go_wp2_with (first | ((with_reducible refine gate_callee (f := 14) rfl ?_); refine goesL_ (some 3) rfl rfl Try.func14 (by kernel_rfl) rfl #[.agg #[.int .i64 1, .int .i64 5, .int .i64 8]] rfl (by (try simp only [List.map_toArray, List.map_cons, List.map_nil]); first | done | rfl | (simp only [List.length_drop, List.length_take]; rfl)) ?_; (with_reducible refine (plan_Pieces.calls k 1 5 8 t220 _ A1.out).mono ?_); rintro e w6 ⟨v221, rfl, ho0, hb⟩; refine ⟨_, rfl, ?_⟩; have n0_ := Aside0.mk (Kd.V_lower (Kd.V_mono (ok' := fun k_ => True) ho0 (fun k_ hk_ => trivial)) (below_size (by repeat (first | (with_reducible first | exact HB.out | apply below_alloc | apply pw_below_drewN | apply below_drew1) | exact HB.out)))); have n1_ := Aside0.mk (below_step (by repeat (first | (with_reducible first | exact HB.out | apply below_alloc | apply pw_below_drewN | apply below_drew1) | exact HB.out)) hb); clear HB; have HO222 := n0_; have HB := n1_; clear n0_ n1_; (try clear hb); (try clear hb2); (try clear hk); (try clear hi); (try clear ho0); obtain ⟨Ao7, co7, eo7⟩ := Kd.V_slice HO222.out; subst eo7; have p223 : 0 ≤ (0 : Int) := (by omega); have q223 : 0 < (t220.length : Int) := of_decide_eq_true (by first | (with_reducible assumption) | assumption); obtain ⟨ad223, e223, hx223_0, hx223_1⟩ := at_T29 (Kd.V_reads' HO222.out).2.2 0 p223 q223; cases e223; have qi223 : (0 < t220.length) = True := eq_true (by omega); (try rw [show ((0 : Int)).toNat = 0 from rfl] at hx223_0); (try rw [show 0 * 2 = 0 from rfl] at hx223_0); (try rw [Addr.add_zero'] at hx223_0); (try rw [show ((0 : Int)).toNat = 0 from rfl] at hx223_1); (try rw [show 0 * 2 = 0 from rfl] at hx223_1); (try rw [Addr.add_zero'] at hx223_1); replace p223 := eq_true p223; replace q223 := eq_true q223; have p224 : 0 ≤ (2 : Int) := (by omega); have q224 : 2 < (t220.length : Int) := of_decide_eq_true (by first | (with_reducible assumption) | assumption); obtain ⟨ad224, e224, hx224_0, hx224_1⟩ := at_T29 (Kd.V_reads' HO222.out).2.2 2 p224 q224; obtain rfl : ad223 = ad224 := (by injection e224); (try simp only [show (2 : Int).toNat = 2 from rfl, Nat.reduceMul, Nat.reduceEqDiff, Go.Addr.add, ↓reduceIte] at hx224_0); (try simp only [show (2 : Int).toNat = 2 from rfl, Nat.reduceMul, Nat.reduceEqDiff, Go.Addr.add, ↓reduceIte] at hx224_1); have qi224 : (2 < t220.length) = True := eq_true (by omega); (try rw [show ((2 : Int)).toNat = 2 from rfl] at hx224_0); (try rw [show 2 * 2 = 4 from rfl] at hx224_0); (try rw [show ((2 : Int)).toNat = 2 from rfl] at hx224_1); (try rw [show 2 * 2 = 4 from rfl] at hx224_1); replace p224 := eq_true p224; replace q224 := eq_true q224))
          go_ret
          exact ⟨by first | rfl | (simp [errW_none, errW_some] <;> rfl) | (simp [*, errW_none, errW_some] <;> rfl), by repeat (first | (with_reducible first | exact HB.out | apply below_alloc | apply pw_below_drewN | apply below_drew1) | exact HB.out)⟩
        · rw [if_neg c5] at H
          exact absurd H (by simp)
      · rw [if_neg c4] at H
        have c4b0 : (((rd_T29 t220 0).f0) == 0 && (((rd_T29 t220 0).f1) == 8)) = false := by simpa using c4
        (try (have c4b1 : decide (((rd_T29 t220 0).f0) = 0 && (((rd_T29 t220 0).f1) == 8)) = false := by simpa using c4))
        (try (have c4b2 : (((rd_T29 t220 0).f0) == 0 && (((rd_T29 t220 0).f1) == 8)) = false := by simpa using c4))
        (try (have c4b3 : ¬ (((rd_T29 t220 0).f0) = 0 && (((rd_T29 t220 0).f1) == 8)) := by simpa using c4))
        clear c4
        obtain rfl := Option.some.inj H
        go_enter Try.func12, Try.ntmps12
        go_wp2_with (first | ((with_reducible refine gate_callee (f := 14) rfl ?_); refine goesL_ (some 3) rfl rfl Try.func14 (by kernel_rfl) rfl #[.agg #[.int .i64 1, .int .i64 5, .int .i64 8]] rfl (by (try simp only [List.map_toArray, List.map_cons, List.map_nil]); first | done | rfl | (simp only [List.length_drop, List.length_take]; rfl)) ?_; (with_reducible refine (plan_Pieces.calls k 1 5 8 t220 _ A1.out).mono ?_); rintro e w8 ⟨v221, rfl, ho0, hb⟩; refine ⟨_, rfl, ?_⟩; have n0_ := Aside0.mk (Kd.V_lower (Kd.V_mono (ok' := fun k_ => True) ho0 (fun k_ hk_ => trivial)) (below_size (by repeat (first | (with_reducible first | exact HB.out | apply below_alloc | apply pw_below_drewN | apply below_drew1) | exact HB.out)))); have n1_ := Aside0.mk (below_step (by repeat (first | (with_reducible first | exact HB.out | apply below_alloc | apply pw_below_drewN | apply below_drew1) | exact HB.out)) hb); clear HB; have HO222 := n0_; have HB := n1_; clear n0_ n1_; (try clear hb); (try clear hb2); (try clear hk); (try clear hi); (try clear ho0); obtain ⟨Ao9, co9, eo9⟩ := Kd.V_slice HO222.out; subst eo9; have p223 : 0 ≤ (0 : Int) := (by omega); have q223 : 0 < (t220.length : Int) := of_decide_eq_true (by first | (with_reducible assumption) | assumption); obtain ⟨ad223, e223, hx223_0, hx223_1⟩ := at_T29 (Kd.V_reads' HO222.out).2.2 0 p223 q223; cases e223; have qi223 : (0 < t220.length) = True := eq_true (by omega); (try rw [show ((0 : Int)).toNat = 0 from rfl] at hx223_0); (try rw [show 0 * 2 = 0 from rfl] at hx223_0); (try rw [Addr.add_zero'] at hx223_0); (try rw [show ((0 : Int)).toNat = 0 from rfl] at hx223_1); (try rw [show 0 * 2 = 0 from rfl] at hx223_1); (try rw [Addr.add_zero'] at hx223_1); replace p223 := eq_true p223; replace q223 := eq_true q223))
        go_ret
        exact ⟨by first | rfl | (simp [errW_none, errW_some] <;> rfl) | (simp [*, errW_none, errW_some] <;> rfl), by repeat (first | (with_reducible first | exact HB.out | apply below_alloc | apply pw_below_drewN | apply below_drew1) | exact HB.out)⟩
    · rw [if_neg c3] at H
      exact absurd H (by simp)
  · rw [if_neg c2] at H
    have c2b0 : ((t220.length : Int) == 3) = false := beq_eq_false_iff_ne.mpr c2
    have c2b1 : ((t220.length : Int) != 3) = true := bne_iff_ne.mpr c2
    obtain rfl := Option.some.inj H
    go_enter Try.func12, Try.ntmps12
    go_wp2_with (first | ((with_reducible refine gate_callee (f := 14) rfl ?_); refine goesL_ (some 3) rfl rfl Try.func14 (by kernel_rfl) rfl #[.agg #[.int .i64 1, .int .i64 5, .int .i64 8]] rfl (by (try simp only [List.map_toArray, List.map_cons, List.map_nil]); first | done | rfl | (simp only [List.length_drop, List.length_take]; rfl)) ?_; (with_reducible refine (plan_Pieces.calls k 1 5 8 t220 _ A1.out).mono ?_); rintro e w10 ⟨v221, rfl, ho0, hb⟩; refine ⟨_, rfl, ?_⟩; have n0_ := Aside0.mk (Kd.V_lower (Kd.V_mono (ok' := fun k_ => True) ho0 (fun k_ hk_ => trivial)) (below_size (by repeat (first | (with_reducible first | exact HB.out | apply below_alloc | apply pw_below_drewN | apply below_drew1) | exact HB.out)))); have n1_ := Aside0.mk (below_step (by repeat (first | (with_reducible first | exact HB.out | apply below_alloc | apply pw_below_drewN | apply below_drew1) | exact HB.out)) hb); clear HB; have HO222 := n0_; have HB := n1_; clear n0_ n1_; (try clear hb); (try clear hb2); (try clear hk); (try clear hi); (try clear ho0); obtain ⟨Ao11, co11, eo11⟩ := Kd.V_slice HO222.out; subst eo11))
    go_ret
    exact ⟨by first | rfl | (simp [errW_none, errW_some] <;> rfl) | (simp [*, errW_none, errW_some] <;> rfl), by repeat (first | (with_reducible first | exact HB.out | apply below_alloc | apply pw_below_drewN | apply below_drew1) | exact HB.out)⟩

end Go.Proofs.Ytbpobnlkfpjijaa.Pr
