-- Laid by a program (wip/merge.py): texts of this claim, one behind the other.
import Derived.Test.YtbpobnlkfpjijaaDoorRY2
import Derived.Deep.RegionWith
-- Pr60
section
namespace Go.Proofs.YtbpobnlkfpjijaaDoorR.Pr
open Go.RowKit Go.Proofs.YtbpobnlkfpjijaaDoorRW.PrintWords Go.Proofs.YtbpobnlkfpjijaaDoorRW.PrintLast Go.Proofs.YtbpobnlkfpjijaaDoorRW.PrintMore
attribute [local go_sem] max2_int min2_int max_two min_two max_three min_three max_four min_four   -- for this text's walks alone
set_option linter.unusedVariables false
set_option linter.unusedSimpArgs false

attribute [local go_sem] Go.Proofs.Aid.cell_set_row
def tallystickref14_takeRow.l0 : Nat → ByteArray → Int → List Int → Int → Option (List Int × ByteArray × Int)
  | 0, _, _, _, _ => none
  | k + 1, x0, x5, x6, x7 => if x7 < x5 then (if (x0.size : Int) < 8 then (some (([] : List Int), (⟨#[]⟩ : ByteArray), 5)) else (if 0 ≤ 8 then (if 8 ≤ (x0.size : Int) then ((tallystickref14_number.f k (x0.extract 0 8)).bind fun t202 => (if x6.length < 17592186044416 then (tallystickref14_takeRow.l0 k (x0.extract 8 x0.size) x5 (x6 ++ [t202]) (IntKind.u64.wrap (x7 + 1))) else (none))) else (none)) else (none))) else ((tallystickref14_ordered.f x6).bind fun t206 => (if t206 = true then (some (x6, x0, 0)) else (some (([] : List Int), (⟨#[]⟩ : ByteArray), 6))))
def tallystickref14_takeRow.f (k : Nat) (a0 : ByteArray) : Option (List Int × ByteArray × Int) := if (a0.size : Int) < 4 then (some (([] : List Int), (⟨#[]⟩ : ByteArray), 5)) else (if 0 ≤ 4 then (if 4 ≤ (a0.size : Int) then ((tallystickref14_number.f k (a0.extract 0 4)).bind fun t201 => (if t201 > 4096 then (some (([] : List Int), (⟨#[]⟩ : ByteArray), 4)) else (tallystickref14_takeRow.l0 k (a0.extract 4 a0.size) t201 ([] : List Int) 0))) else (none)) else (none))
theorem tallystickref14_takeRow.mono_l : ∀ k, (∀ y0 y1 y2 y3, LeO (tallystickref14_takeRow.l0 k y0 y1 y2 y3) (tallystickref14_takeRow.l0 (k + 1) y0 y1 y2 y3))
  | 0 => fun _ _ _ _ r h => by simp [tallystickref14_takeRow.l0] at h
  | k + 1 => by
    have ih0 := tallystickref14_takeRow.mono_l k
    · intro y0 y1 y2 y3
      unfold tallystickref14_takeRow.l0
      repeat' first
      | (with_reducible exact ih0 _ _ _ _)
      | (with_reducible exact tallystickref14_number.mono _ _)
      | (with_reducible exact LeO.refl _)
      | (with_reducible exact LeO.none _)
      | (with_reducible refine LeO.ite ?_ ?_)
      | (with_reducible refine LeO.bind ?_ (fun _ => ?_))
      | exact ih0 _ _ _ _
      | exact tallystickref14_number.mono _ _
      | exact LeO.none _
      | refine LeO.ite ?_ ?_
      | refine LeO.bind ?_ (fun _ => ?_)
theorem tallystickref14_takeRow.mono : ∀ a0 k, LeO (tallystickref14_takeRow.f k a0) (tallystickref14_takeRow.f (k + 1) a0) := by
  intro a0 k
  have ih0 := tallystickref14_takeRow.mono_l k
  unfold tallystickref14_takeRow.f
  repeat' first
      | (with_reducible exact ih0 _ _ _ _)
      | (with_reducible exact tallystickref14_number.mono _ _)
      | (with_reducible exact LeO.refl _)
      | (with_reducible exact LeO.none _)
      | (with_reducible refine LeO.ite ?_ ?_)
      | (with_reducible refine LeO.bind ?_ (fun _ => ?_))
      | exact ih0 _ _ _ _
      | exact tallystickref14_number.mono _ _
      | exact LeO.none _
      | refine LeO.ite ?_ ?_
      | refine LeO.bind ?_ (fun _ => ?_)
set_option maxHeartbeats 8000000 in
set_option maxRecDepth 100000 in
theorem tallystickref14_takeRow.calls (k : Nat) (a0 : ByteArray) (r1 : List Int) (r2 : ByteArray) (r3 : Int) (w : World) (h : tallystickref14_takeRow.f k a0 = some (r1, r2, r3)) :
    Calls Tryd.prog 42 #[.string a0] w fun e w' => ∃ v0_ : Value, e = .returned (.tuple #[v0_, .string r2, .int .i64 r3]) ∧ Kd.R (Kd.int .u64) 79 w' w.heap.size (fun _ => True) v0_ r1 ∧ Below w.heap.size w w' := by
  have HB := Aside0.mk (Below.refl w.heap.size w)
  have H : (if (a0.size : Int) < 4 then (some (([] : List Int), (⟨#[]⟩ : ByteArray), 5)) else (if 0 ≤ 4 then (if 4 ≤ (a0.size : Int) then ((tallystickref14_number.f k (a0.extract 0 4)).bind fun t201 => (if t201 > 4096 then (some (([] : List Int), (⟨#[]⟩ : ByteArray), 4)) else (tallystickref14_takeRow.l0 k (a0.extract 4 a0.size) t201 ([] : List Int) 0))) else (none)) else (none))) = some (r1, r2, r3) := h
  clear h
  by_cases c2 : (a0.size : Int) < 4
  · rw [if_pos c2] at H
    have c2b0 : decide ((a0.size : Int) < 4) = true := decide_eq_true c2
    have c2b1 : decide (a0.size < 4) = true := decide_eq_true (by omega)
    clear c2
    simp only [Option.some.injEq, Prod.mk.injEq] at H
    obtain ⟨rfl, rfl, rfl⟩ := H
    go_enter Tryd.func42, Tryd.ntmps42
    go_wp2
    go_ret3
    exact ⟨_, by first | rfl | (simp [errW_none, errW_some] <;> rfl) | (simp [*, errW_none, errW_some] <;> rfl), by first | exact Kd.R_nil _ _ _ _ _ | exact Kd.N_nil _ _ _ _ _ | exact Kd.V_nil _ _ _ _ _ | exact Kd.Q_nil _ _ _ _ _ | exact Kd.S_nil _ _ _ _ _, by repeat (first | (with_reducible first | exact HB.out | apply below_alloc | apply pw_below_drewN | apply below_drew1) | exact HB.out)⟩
  · rw [if_neg c2] at H
    have c2b0 : decide ((a0.size : Int) < 4) = false := decide_eq_false c2
    have c2b1 : decide (a0.size < 4) = false := decide_eq_false (by omega)
    clear c2
    by_cases c3 : 0 ≤ 4
    · rw [if_pos c3] at H
      have c3b0 := eq_true c3
      have c3b1 : decide (0 ≤ 4) = true := decide_eq_true c3
      clear c3
      by_cases c4 : 4 ≤ (a0.size : Int)
      · rw [if_pos c4] at H
        have c4b0 := eq_true c4
        have c4b1 : decide (4 ≤ (a0.size : Int)) = true := decide_eq_true c4
        clear c4
        replace H := Option.bind_eq_some_iff.mp H
        obtain ⟨t201, A50, H⟩ := H
        replace H : (if t201 > 4096 then (some (([] : List Int), (⟨#[]⟩ : ByteArray), 4)) else (tallystickref14_takeRow.l0 k (a0.extract 4 a0.size) t201 ([] : List Int) 0)) = some (r1, r2, r3) := H
        have A5 := Aside0.mk A50
        clear A50
        by_cases c6 : t201 > 4096
        · rw [if_pos c6] at H
          have c6b0 : decide (4096 < t201) = true := decide_eq_true c6
          clear c6
          simp only [Option.some.injEq, Prod.mk.injEq] at H
          obtain ⟨rfl, rfl, rfl⟩ := H
          go_enter Tryd.func42, Tryd.ntmps42
          go_wp2_with (first | ((with_reducible refine gate_callee (f := 40) rfl ?_); refine goesL_ (some 14) rfl rfl Tryd.func40 (by kernel_rfl) rfl #[.string (a0.extract 0 4)] rfl (by (try simp only [List.map_toArray, List.map_cons, List.map_nil]); first | done | rfl | (simp only [List.length_drop, List.length_take]; rfl)) ?_; (with_reducible refine (tallystickref14_number.calls k (a0.extract 0 4) t201 _ A5.out).mono ?_); rintro e w' ⟨rfl, ⟨nd, rfl⟩⟩; refine ⟨_, rfl, ?_⟩))
          go_ret3
          exact ⟨_, by first | rfl | (simp [errW_none, errW_some] <;> rfl) | (simp [*, errW_none, errW_some] <;> rfl), by first | exact Kd.R_nil _ _ _ _ _ | exact Kd.N_nil _ _ _ _ _ | exact Kd.V_nil _ _ _ _ _ | exact Kd.Q_nil _ _ _ _ _ | exact Kd.S_nil _ _ _ _ _, by repeat (first | (with_reducible first | exact HB.out | apply below_alloc | apply pw_below_drewN | apply below_drew1) | exact HB.out)⟩
        · rw [if_neg c6] at H
          have c6b0 : decide (4096 < t201) = false := decide_eq_false c6
          clear c6
          have c7b0 := eq_true (of_decide_eq_true (by first | (with_reducible assumption) | assumption) : 4 ≤ (a0.size : Int))
          have H' := Aside0.mk H
          clear H
          go_enter Tryd.func42, Tryd.ntmps42
          go_wp2_with (first | ((with_reducible refine gate_callee (f := 40) rfl ?_); refine goesL_ (some 14) rfl rfl Tryd.func40 (by kernel_rfl) rfl #[.string (a0.extract 0 4)] rfl (by (try simp only [List.map_toArray, List.map_cons, List.map_nil]); first | done | rfl | (simp only [List.length_drop, List.length_take]; rfl)) ?_; (with_reducible refine (tallystickref14_number.calls k (a0.extract 0 4) t201 _ A5.out).mono ?_); rintro e w' ⟨rfl, ⟨nd, rfl⟩⟩; refine ⟨_, rfl, ?_⟩))
          go_loopg [0, 6, 7] k (fun kq v0 v6 v7 w' => ∃ (x0_1 : ByteArray) (x6_1 : List Int) (x7_1 : Int), v0 = .string x0_1 ∧ v7 = .int .u64 x7_1 ∧ Aside0 (tallystickref14_takeRow.l0 kq x0_1 t201 x6_1 x7_1 = some (r1, r2, r3)) ∧ Aside0 (kq ≤ k) ∧ Aside0 (Kd.R (Kd.int .u64) 79 w' w.heap.size (fun _ => True) v6 x6_1) ∧ Aside0 (Below w.heap.size w w'))
          case atStart => exact ⟨(a0.extract 4 a0.size), (([] : List Int)), (0), (by first | rfl | (simp; done) | (simp [*]; done)), (by first | rfl | (simp; done) | (simp [*]; done)), H', ⟨Nat.le_refl _⟩, ⟨by first | exact Kd.R_nil _ _ _ _ _ | exact Kd.N_nil _ _ _ _ _ | exact Kd.V_nil _ _ _ _ _ | exact Kd.Q_nil _ _ _ _ _ | exact Kd.S_nil _ _ _ _ _⟩, ⟨by repeat (first | (with_reducible first | exact HB.out | apply below_alloc | apply pw_below_drewN | apply below_drew1) | exact HB.out)⟩⟩
          case round =>
            clear H'
            try clear c2
            try clear c2b0
            try clear c2b1
            try clear p2
            try clear c3
            try clear c3b0
            try clear c3b1
            try clear c4
            try clear c4b0
            try clear c4b1
            try clear c6
            try clear c6b0
            try clear c7
            try clear c7b0
            obtain ⟨x0_1, x6_1, x7_1, rfl, rfl, HA, HK1, HO_6, HB⟩ := hrel
            cases gk with
            | zero => exact absurd HA.out (by simp [tallystickref14_takeRow.l0])
            | succ k1 =>
              have H := HA.out
              clear HA
              simp only [tallystickref14_takeRow.l0] at H
              by_cases c8 : x7_1 < t201
              · rw [if_pos c8] at H
                have c8b0 : decide (x7_1 < t201) = true := decide_eq_true c8
                clear c8
                by_cases c9 : (x0_1.size : Int) < 8
                · rw [if_pos c9] at H
                  have c9b0 : decide ((x0_1.size : Int) < 8) = true := decide_eq_true c9
                  have c9b1 : decide (x0_1.size < 8) = true := decide_eq_true (by omega)
                  clear c9
                  simp only [Option.some.injEq, Prod.mk.injEq] at H
                  obtain ⟨rfl, rfl, rfl⟩ := H
                  go_wp2
                  go_ret3
                  exact ⟨_, by first | rfl | (simp [errW_none, errW_some] <;> rfl) | (simp [*, errW_none, errW_some] <;> rfl), by first | exact Kd.R_nil _ _ _ _ _ | exact Kd.N_nil _ _ _ _ _ | exact Kd.V_nil _ _ _ _ _ | exact Kd.Q_nil _ _ _ _ _ | exact Kd.S_nil _ _ _ _ _, by repeat (first | (with_reducible first | exact HB.out | apply below_alloc | apply pw_below_drewN | apply below_drew1) | exact HB.out)⟩
                · rw [if_neg c9] at H
                  have c9b0 : decide ((x0_1.size : Int) < 8) = false := decide_eq_false c9
                  have c9b1 : decide (x0_1.size < 8) = false := decide_eq_false (by omega)
                  clear c9
                  by_cases c10 : 0 ≤ 8
                  · rw [if_pos c10] at H
                    have c10b0 := eq_true c10
                    have c10b1 : decide (0 ≤ 8) = true := decide_eq_true c10
                    clear c10
                    by_cases c11 : 8 ≤ (x0_1.size : Int)
                    · rw [if_pos c11] at H
                      have c11b0 := eq_true c11
                      have c11b1 : decide (8 ≤ (x0_1.size : Int)) = true := decide_eq_true c11
                      clear c11
                      replace H := Option.bind_eq_some_iff.mp H
                      obtain ⟨t202, A120, H⟩ := H
                      replace H : (if x6_1.length < 17592186044416 then (tallystickref14_takeRow.l0 k1 (x0_1.extract 8 x0_1.size) t201 (x6_1 ++ [t202]) (IntKind.u64.wrap (x7_1 + 1))) else (none)) = some (r1, r2, r3) := H
                      have A12 := Aside0.mk A120
                      clear A120
                      by_cases c13 : x6_1.length < 17592186044416
                      · rw [if_pos c13] at H
                        have LMc13 := Aside0.mk c13
                        clear c13
                        obtain ⟨y203, hy203⟩ : ∃ y_ : List Int, y_ = (x6_1 ++ [t202]) := ⟨_, rfl⟩
                        replace H : (tallystickref14_takeRow.l0 k1 (x0_1.extract 8 x0_1.size) t201 y203 (IntKind.u64.wrap (x7_1 + 1))) = some (r1, r2, r3) := by first | (rw [hy203]; with_reducible exact H) | (have H2_ := (Option.bind_some _ _).symm.trans H; rw [hy203]; with_reducible exact H2_) | (have H2_ := (Option.bind_some _ _).symm.trans H; with_reducible exact H2_) | with_reducible exact H | (rw [hy203]; exact H) | exact H
                        have Ny203 := Aside0.mk hy203
                        clear hy203
                        have c14b0 := eq_true (of_decide_eq_true (by first | (with_reducible assumption) | assumption) : 8 ≤ (x0_1.size : Int))
                        have H' := Aside0.mk H
                        clear H
                        go_wp2_with (first | ((with_reducible refine gate_callee (f := 40) rfl ?_); refine goesL_ (some 30) rfl rfl Tryd.func40 (by kernel_rfl) rfl #[.string (x0_1.extract 0 8)] rfl (by (try simp only [List.map_toArray, List.map_cons, List.map_nil]); first | done | rfl | (simp only [List.length_drop, List.length_take]; rfl)) ?_; (with_reducible refine (tallystickref14_number.calls k1 (x0_1.extract 0 8) t202 _ A12.out).mono ?_); rintro e w' ⟨rfl, ⟨nd, rfl⟩⟩; refine ⟨_, rfl, ?_⟩) | ((with_reducible refine gate_builtin (b := .append) (xs := #[.tmp 27, .tmp 31]) rfl ?_); at_builtin; refine Kd.R_append (Kd.int .u64) (w0 := w) w.heap.size rfl (.tmp 27) (.tmp 31) 43 79 (.int .u64 0) 8 rfl Tryd.underlying43 info79 rfl (by decide) (by omega) u6 x6_1 t202 [.int .u64 t202] (fun _ => True) (fun _ => False) rfl rfl ?aP (fun _ hk => hk.elim) ?aF ?aO ?aB ?aS ?aL ?_; (case aP => exact rfl); (case aB => exact (by repeat (first | (with_reducible first | exact HB.out | apply below_alloc | apply pw_below_drewN | apply below_drew1) | exact HB.out))); (case aF => exact (fun _ _ => trivial)); (case aO => exact (by (with_reducible repeat (first | apply Kd.R_alloc | apply Kd.R_drewN | apply Kd.R_drew)); exact HO_6.out)); (case aS => exact (below_size (by repeat (first | (with_reducible first | exact HB.out | apply below_alloc | apply pw_below_drewN | apply below_drew1) | exact HB.out)))); (case aL => have := LMc13.out; omega); intro v204 w15 ho hb hg hat; rw [← Ny203.out] at ho; have n0_ := Aside0.mk (hb); have n1_ := Aside0.mk (ho); clear HB; clear HO_6; have HB := n0_; have HO205 := n1_; clear n0_ n1_; clear ho hb hg hat))
                        go_roundg k1
                        case measure => have := HK1.out; omega
                        case rel => exact ⟨(x0_1.extract 8 x0_1.size), (y203), (IntKind.u64.wrap (x7_1 + 1)), (by first | rfl | (simp; done) | (simp [*]; done)), (by first | rfl | (simp; done) | (simp [*]; done)), H', ⟨by have := HK1.out; omega⟩, ⟨by (with_reducible repeat (first | apply Kd.R_alloc | apply Kd.R_drewN | apply Kd.R_drew)); exact HO205.out⟩, ⟨by repeat (first | (with_reducible first | exact HB.out | apply below_alloc | apply pw_below_drewN | apply below_drew1) | exact HB.out)⟩⟩
                      · rw [if_neg c13] at H
                        exact absurd H (by simp)
                    · rw [if_neg c11] at H
                      exact absurd H (by simp)
                  · rw [if_neg c10] at H
                    exact absurd H (by simp)
              · rw [if_neg c8] at H
                have c8b0 : decide (x7_1 < t201) = false := decide_eq_false c8
                clear c8
                replace H := Option.bind_eq_some_iff.mp H
                obtain ⟨t206, A160, H⟩ := H
                replace H : (if t206 = true then (some (x6_1, x0_1, 0)) else (some (([] : List Int), (⟨#[]⟩ : ByteArray), 6))) = some (r1, r2, r3) := H
                have A16 := Aside0.mk A160
                clear A160
                by_cases c17 : t206 = true
                · subst c17
                  have H1 : (some (x6_1, x0_1, 0)) = some (r1, r2, r3) := by rw [if_pos rfl] at H; exact H
                  clear H
                  have H := H1
                  clear H1
                  simp only [Option.some.injEq, Prod.mk.injEq] at H
                  obtain ⟨rfl, rfl, rfl⟩ := H
                  obtain ⟨Ao18, co18, eo18⟩ := Kd.R_slice HO_6.out
                  subst eo18
                  go_wp2_with (first | ((with_reducible refine gate_callee (f := 60) rfl ?_); refine goesL_ (some 36) rfl rfl Tryd.func60 (by kernel_rfl) rfl #[.slice Ao18 x6_1.length co18] rfl (by (try simp only [List.map_toArray, List.map_cons, List.map_nil]); first | done | rfl | (simp only [List.length_drop, List.length_take]; rfl)) ?_; (with_reducible refine (tallystickref14_ordered.calls _ _ x6_1 true _ ?side1 ?side2 A16.out).mono ?_); (case side1 => repeat (first | exact (Kd.R_reads' HO_6.out).2.2 | (with_reducible refine Kd.C_alloc ?_ _) | (with_reducible refine Kd.C_drewN ?_ _) | (with_reducible refine Kd.C_drew ?_))); (case side2 => exact (Kd.R_reads' HO_6.out).2.1); rintro e w' ⟨rfl, ⟨nd, rfl⟩⟩; refine ⟨_, rfl, ?_⟩))
                  go_ret3
                  exact ⟨_, by first | rfl | (simp [errW_none, errW_some] <;> rfl) | (simp [*, errW_none, errW_some] <;> rfl), by (with_reducible repeat (first | apply Kd.R_alloc | apply Kd.R_drewN | apply Kd.R_drew)); exact HO_6.out, by repeat (first | (with_reducible first | exact HB.out | apply below_alloc | apply pw_below_drewN | apply below_drew1) | exact HB.out)⟩
                · replace c17 := Bool.eq_false_iff.mpr c17
                  subst c17
                  have H1 : (some (([] : List Int), (⟨#[]⟩ : ByteArray), 6)) = some (r1, r2, r3) := by rw [if_neg (show ¬ (false = true) by decide)] at H; exact H
                  clear H
                  have H := H1
                  clear H1
                  simp only [Option.some.injEq, Prod.mk.injEq] at H
                  obtain ⟨rfl, rfl, rfl⟩ := H
                  obtain ⟨Ao19, co19, eo19⟩ := Kd.R_slice HO_6.out
                  subst eo19
                  go_wp2_with (first | ((with_reducible refine gate_callee (f := 60) rfl ?_); refine goesL_ (some 36) rfl rfl Tryd.func60 (by kernel_rfl) rfl #[.slice Ao19 x6_1.length co19] rfl (by (try simp only [List.map_toArray, List.map_cons, List.map_nil]); first | done | rfl | (simp only [List.length_drop, List.length_take]; rfl)) ?_; (with_reducible refine (tallystickref14_ordered.calls _ _ x6_1 false _ ?side1 ?side2 A16.out).mono ?_); (case side1 => repeat (first | exact (Kd.R_reads' HO_6.out).2.2 | (with_reducible refine Kd.C_alloc ?_ _) | (with_reducible refine Kd.C_drewN ?_ _) | (with_reducible refine Kd.C_drew ?_))); (case side2 => exact (Kd.R_reads' HO_6.out).2.1); rintro e w' ⟨rfl, ⟨nd, rfl⟩⟩; refine ⟨_, rfl, ?_⟩))
                  go_ret3
                  exact ⟨_, by first | rfl | (simp [errW_none, errW_some] <;> rfl) | (simp [*, errW_none, errW_some] <;> rfl), by first | exact Kd.R_nil _ _ _ _ _ | exact Kd.N_nil _ _ _ _ _ | exact Kd.V_nil _ _ _ _ _ | exact Kd.Q_nil _ _ _ _ _ | exact Kd.S_nil _ _ _ _ _, by repeat (first | (with_reducible first | exact HB.out | apply below_alloc | apply pw_below_drewN | apply below_drew1) | exact HB.out)⟩
      · rw [if_neg c4] at H
        exact absurd H (by simp)
    · rw [if_neg c3] at H
      exact absurd H (by simp)

end Go.Proofs.YtbpobnlkfpjijaaDoorR.Pr
end
-- Pr61
section
namespace Go.Proofs.YtbpobnlkfpjijaaDoorR.Pr
open Go.RowKit Go.Proofs.YtbpobnlkfpjijaaDoorRW.PrintWords Go.Proofs.YtbpobnlkfpjijaaDoorRW.PrintLast Go.Proofs.YtbpobnlkfpjijaaDoorRW.PrintMore
attribute [local go_sem] max2_int min2_int max_two min_two max_three min_three max_four min_four   -- for this text's walks alone
set_option linter.unusedVariables false
set_option linter.unusedSimpArgs false

attribute [local go_sem] Go.Proofs.Aid.cell_set_row
def tallystickref14_small.f (a0 : Int) : Option (Bool) := if a0 ≥ 0 then (some (decide (a0 ≤ 2147483647))) else (some false)
set_option maxHeartbeats 8000000 in
set_option maxRecDepth 100000 in
theorem tallystickref14_small.calls (a0 : Int) (r : Bool) (w : World) (h : tallystickref14_small.f a0 = some r) :
    Calls Tryd.prog 61 #[.int .i64 a0] w fun e w' => e = .returned (.bool r) ∧ Drawn0 w w' := by
  have H : (if a0 ≥ 0 then (some (decide (a0 ≤ 2147483647))) else (some false)) = some r := h
  clear h
  by_cases c2 : a0 ≥ 0
  · rw [if_pos c2] at H
    have c2b0 : decide (0 ≤ a0) = true := decide_eq_true c2
    clear c2
    obtain rfl := Option.some.inj H
    go_enter Tryd.func61, Tryd.ntmps61
    go_wp2
    go_ret
    exact ⟨by first | rfl | (simp; done) | (simp [*]; done), by repeat (first | exact Drawn0.refl _ | apply Drawn0.step)⟩
  · rw [if_neg c2] at H
    have c2b0 : decide (0 ≤ a0) = false := decide_eq_false c2
    clear c2
    obtain rfl := Option.some.inj H
    go_enter Tryd.func61, Tryd.ntmps61
    go_wp2
    go_ret
    exact ⟨by first | rfl | (simp; done) | (simp [*]; done), by repeat (first | exact Drawn0.refl _ | apply Drawn0.step)⟩

end Go.Proofs.YtbpobnlkfpjijaaDoorR.Pr
end
-- Pr62
section
namespace Go.Proofs.YtbpobnlkfpjijaaDoorR.Pr
open Go.RowKit Go.Proofs.YtbpobnlkfpjijaaDoorRW.PrintWords Go.Proofs.YtbpobnlkfpjijaaDoorRW.PrintLast Go.Proofs.YtbpobnlkfpjijaaDoorRW.PrintMore
attribute [local go_sem] max2_int min2_int max_two min_two max_three min_three max_four min_four   -- for this text's walks alone
set_option linter.unusedVariables false
set_option linter.unusedSimpArgs false

attribute [local go_sem] Go.Proofs.Aid.cell_set_row
def tallystickref14_May.f (a0_0 : Int) (a0_1 : Int) (a0_2 : Int) (a0_3 : Int) (a0_4 : Int) (l0_5 : List Int) (l0_6 : List Int) (l0_7 : List Int) (a0_8 : Bool) : Option (Bool) := (tallystickref14_small.f a0_1).bind fun t208 => (if t208 = true then ((tallystickref14_small.f a0_2).bind fun t209 => (if t209 = true then ((tallystickref14_small.f a0_3).bind fun t210 => (if t210 = true then ((tallystickref14_small.f a0_4).bind fun t211 => ((tallystickref14_ordered.f l0_5).bind fun t212 => (if t212 = true then ((tallystickref14_ordered.f l0_6).bind fun t213 => (if t213 = true then ((tallystickref14_ordered.f l0_7).bind fun t214 => (if t211 = true then (if t214 = true then (if a0_0 ≥ 0 then (some (decide (a0_0 ≤ 255))) else (some false)) else (some false)) else (some false))) else (if t211 = true then (some false) else (some false)))) else (if t211 = true then (some false) else (some false))))) else ((tallystickref14_ordered.f l0_5).bind fun t215 => (if t215 = true then ((tallystickref14_ordered.f l0_6).bind fun t216 => (if t216 = true then ((tallystickref14_ordered.f l0_7).bind fun t217 => (some false)) else (some false))) else (some false))))) else ((tallystickref14_ordered.f l0_5).bind fun t218 => (if t218 = true then ((tallystickref14_ordered.f l0_6).bind fun t219 => (if t219 = true then ((tallystickref14_ordered.f l0_7).bind fun t220 => (some false)) else (some false))) else (some false))))) else ((tallystickref14_ordered.f l0_5).bind fun t221 => (if t221 = true then ((tallystickref14_ordered.f l0_6).bind fun t222 => (if t222 = true then ((tallystickref14_ordered.f l0_7).bind fun t223 => (some false)) else (some false))) else (some false))))
set_option maxHeartbeats 8000000 in
set_option maxRecDepth 100000 in
theorem tallystickref14_May.calls (a0_0 : Int) (a0_1 : Int) (a0_2 : Int) (a0_3 : Int) (a0_4 : Int) (A0_5 : Option Addr) (c0_5 : Nat) (l0_5 : List Int) (A0_6 : Option Addr) (c0_6 : Nat) (l0_6 : List Int) (A0_7 : Option Addr) (c0_7 : Nat) (l0_7 : List Int) (a0_8 : Bool) (r : Bool) (w : World) (hr0_5 : Kd.C (Kd.int .u64) w A0_5 l0_5.length l0_5) (hc0_5 : l0_5.length ≤ c0_5) (hr0_6 : Kd.C (Kd.int .u64) w A0_6 l0_6.length l0_6) (hc0_6 : l0_6.length ≤ c0_6) (hr0_7 : Kd.C (Kd.int .u64) w A0_7 l0_7.length l0_7) (hc0_7 : l0_7.length ≤ c0_7) (h : tallystickref14_May.f a0_0 a0_1 a0_2 a0_3 a0_4 l0_5 l0_6 l0_7 a0_8 = some r) :
    Calls Tryd.prog 43 #[.agg #[.int .i64 a0_0, .int .i64 a0_1, .int .i64 a0_2, .int .i64 a0_3, .int .i64 a0_4, .slice A0_5 l0_5.length c0_5, .slice A0_6 l0_6.length c0_6, .slice A0_7 l0_7.length c0_7, .bool a0_8]] w fun e w' => e = .returned (.bool r) ∧ Below w.heap.size w w' := by
  have hu63 := Tryd.underlying63
  have HR0_5 := Aside0.mk hr0_5
  have HC0_5 := Aside0.mk hc0_5
  clear hr0_5 hc0_5
  have HR0_6 := Aside0.mk hr0_6
  have HC0_6 := Aside0.mk hc0_6
  clear hr0_6 hc0_6
  have HR0_7 := Aside0.mk hr0_7
  have HC0_7 := Aside0.mk hc0_7
  clear hr0_7 hc0_7
  have HB := Aside0.mk (Below.refl w.heap.size w)
  have H : ((tallystickref14_small.f a0_1).bind fun t208 => (if t208 = true then ((tallystickref14_small.f a0_2).bind fun t209 => (if t209 = true then ((tallystickref14_small.f a0_3).bind fun t210 => (if t210 = true then ((tallystickref14_small.f a0_4).bind fun t211 => ((tallystickref14_ordered.f l0_5).bind fun t212 => (if t212 = true then ((tallystickref14_ordered.f l0_6).bind fun t213 => (if t213 = true then ((tallystickref14_ordered.f l0_7).bind fun t214 => (if t211 = true then (if t214 = true then (if a0_0 ≥ 0 then (some (decide (a0_0 ≤ 255))) else (some false)) else (some false)) else (some false))) else (if t211 = true then (some false) else (some false)))) else (if t211 = true then (some false) else (some false))))) else ((tallystickref14_ordered.f l0_5).bind fun t215 => (if t215 = true then ((tallystickref14_ordered.f l0_6).bind fun t216 => (if t216 = true then ((tallystickref14_ordered.f l0_7).bind fun t217 => (some false)) else (some false))) else (some false))))) else ((tallystickref14_ordered.f l0_5).bind fun t218 => (if t218 = true then ((tallystickref14_ordered.f l0_6).bind fun t219 => (if t219 = true then ((tallystickref14_ordered.f l0_7).bind fun t220 => (some false)) else (some false))) else (some false))))) else ((tallystickref14_ordered.f l0_5).bind fun t221 => (if t221 = true then ((tallystickref14_ordered.f l0_6).bind fun t222 => (if t222 = true then ((tallystickref14_ordered.f l0_7).bind fun t223 => (some false)) else (some false))) else (some false))))) = some r := h
  clear h
  replace H := Option.bind_eq_some_iff.mp H
  obtain ⟨t208, A20, H⟩ := H
  replace H : (if t208 = true then ((tallystickref14_small.f a0_2).bind fun t209 => (if t209 = true then ((tallystickref14_small.f a0_3).bind fun t210 => (if t210 = true then ((tallystickref14_small.f a0_4).bind fun t211 => ((tallystickref14_ordered.f l0_5).bind fun t212 => (if t212 = true then ((tallystickref14_ordered.f l0_6).bind fun t213 => (if t213 = true then ((tallystickref14_ordered.f l0_7).bind fun t214 => (if t211 = true then (if t214 = true then (if a0_0 ≥ 0 then (some (decide (a0_0 ≤ 255))) else (some false)) else (some false)) else (some false))) else (if t211 = true then (some false) else (some false)))) else (if t211 = true then (some false) else (some false))))) else ((tallystickref14_ordered.f l0_5).bind fun t215 => (if t215 = true then ((tallystickref14_ordered.f l0_6).bind fun t216 => (if t216 = true then ((tallystickref14_ordered.f l0_7).bind fun t217 => (some false)) else (some false))) else (some false))))) else ((tallystickref14_ordered.f l0_5).bind fun t218 => (if t218 = true then ((tallystickref14_ordered.f l0_6).bind fun t219 => (if t219 = true then ((tallystickref14_ordered.f l0_7).bind fun t220 => (some false)) else (some false))) else (some false))))) else ((tallystickref14_ordered.f l0_5).bind fun t221 => (if t221 = true then ((tallystickref14_ordered.f l0_6).bind fun t222 => (if t222 = true then ((tallystickref14_ordered.f l0_7).bind fun t223 => (some false)) else (some false))) else (some false)))) = some r := H
  have A2 := Aside0.mk A20
  clear A20
  by_cases c3 : t208 = true
  · subst c3
    have H1 : ((tallystickref14_small.f a0_2).bind fun t209 => (if t209 = true then ((tallystickref14_small.f a0_3).bind fun t210 => (if t210 = true then ((tallystickref14_small.f a0_4).bind fun t211 => ((tallystickref14_ordered.f l0_5).bind fun t212 => (if t212 = true then ((tallystickref14_ordered.f l0_6).bind fun t213 => (if t213 = true then ((tallystickref14_ordered.f l0_7).bind fun t214 => (if t211 = true then (if t214 = true then (if a0_0 ≥ 0 then (some (decide (a0_0 ≤ 255))) else (some false)) else (some false)) else (some false))) else (if t211 = true then (some false) else (some false)))) else (if t211 = true then (some false) else (some false))))) else ((tallystickref14_ordered.f l0_5).bind fun t215 => (if t215 = true then ((tallystickref14_ordered.f l0_6).bind fun t216 => (if t216 = true then ((tallystickref14_ordered.f l0_7).bind fun t217 => (some false)) else (some false))) else (some false))))) else ((tallystickref14_ordered.f l0_5).bind fun t218 => (if t218 = true then ((tallystickref14_ordered.f l0_6).bind fun t219 => (if t219 = true then ((tallystickref14_ordered.f l0_7).bind fun t220 => (some false)) else (some false))) else (some false))))) = some r := by rw [if_pos rfl] at H; exact H
    clear H
    have H := H1
    clear H1
    replace H := Option.bind_eq_some_iff.mp H
    obtain ⟨t209, A40, H⟩ := H
    replace H : (if t209 = true then ((tallystickref14_small.f a0_3).bind fun t210 => (if t210 = true then ((tallystickref14_small.f a0_4).bind fun t211 => ((tallystickref14_ordered.f l0_5).bind fun t212 => (if t212 = true then ((tallystickref14_ordered.f l0_6).bind fun t213 => (if t213 = true then ((tallystickref14_ordered.f l0_7).bind fun t214 => (if t211 = true then (if t214 = true then (if a0_0 ≥ 0 then (some (decide (a0_0 ≤ 255))) else (some false)) else (some false)) else (some false))) else (if t211 = true then (some false) else (some false)))) else (if t211 = true then (some false) else (some false))))) else ((tallystickref14_ordered.f l0_5).bind fun t215 => (if t215 = true then ((tallystickref14_ordered.f l0_6).bind fun t216 => (if t216 = true then ((tallystickref14_ordered.f l0_7).bind fun t217 => (some false)) else (some false))) else (some false))))) else ((tallystickref14_ordered.f l0_5).bind fun t218 => (if t218 = true then ((tallystickref14_ordered.f l0_6).bind fun t219 => (if t219 = true then ((tallystickref14_ordered.f l0_7).bind fun t220 => (some false)) else (some false))) else (some false)))) = some r := H
    have A4 := Aside0.mk A40
    clear A40
    by_cases c5 : t209 = true
    · subst c5
      have H1 : ((tallystickref14_small.f a0_3).bind fun t210 => (if t210 = true then ((tallystickref14_small.f a0_4).bind fun t211 => ((tallystickref14_ordered.f l0_5).bind fun t212 => (if t212 = true then ((tallystickref14_ordered.f l0_6).bind fun t213 => (if t213 = true then ((tallystickref14_ordered.f l0_7).bind fun t214 => (if t211 = true then (if t214 = true then (if a0_0 ≥ 0 then (some (decide (a0_0 ≤ 255))) else (some false)) else (some false)) else (some false))) else (if t211 = true then (some false) else (some false)))) else (if t211 = true then (some false) else (some false))))) else ((tallystickref14_ordered.f l0_5).bind fun t215 => (if t215 = true then ((tallystickref14_ordered.f l0_6).bind fun t216 => (if t216 = true then ((tallystickref14_ordered.f l0_7).bind fun t217 => (some false)) else (some false))) else (some false))))) = some r := by rw [if_pos rfl] at H; exact H
      clear H
      have H := H1
      clear H1
      replace H := Option.bind_eq_some_iff.mp H
      obtain ⟨t210, A60, H⟩ := H
      replace H : (if t210 = true then ((tallystickref14_small.f a0_4).bind fun t211 => ((tallystickref14_ordered.f l0_5).bind fun t212 => (if t212 = true then ((tallystickref14_ordered.f l0_6).bind fun t213 => (if t213 = true then ((tallystickref14_ordered.f l0_7).bind fun t214 => (if t211 = true then (if t214 = true then (if a0_0 ≥ 0 then (some (decide (a0_0 ≤ 255))) else (some false)) else (some false)) else (some false))) else (if t211 = true then (some false) else (some false)))) else (if t211 = true then (some false) else (some false))))) else ((tallystickref14_ordered.f l0_5).bind fun t215 => (if t215 = true then ((tallystickref14_ordered.f l0_6).bind fun t216 => (if t216 = true then ((tallystickref14_ordered.f l0_7).bind fun t217 => (some false)) else (some false))) else (some false)))) = some r := H
      have A6 := Aside0.mk A60
      clear A60
      by_cases c7 : t210 = true
      · subst c7
        have H1 : ((tallystickref14_small.f a0_4).bind fun t211 => ((tallystickref14_ordered.f l0_5).bind fun t212 => (if t212 = true then ((tallystickref14_ordered.f l0_6).bind fun t213 => (if t213 = true then ((tallystickref14_ordered.f l0_7).bind fun t214 => (if t211 = true then (if t214 = true then (if a0_0 ≥ 0 then (some (decide (a0_0 ≤ 255))) else (some false)) else (some false)) else (some false))) else (if t211 = true then (some false) else (some false)))) else (if t211 = true then (some false) else (some false))))) = some r := by rw [if_pos rfl] at H; exact H
        clear H
        have H := H1
        clear H1
        replace H := Option.bind_eq_some_iff.mp H
        obtain ⟨t211, A80, H⟩ := H
        replace H : ((tallystickref14_ordered.f l0_5).bind fun t212 => (if t212 = true then ((tallystickref14_ordered.f l0_6).bind fun t213 => (if t213 = true then ((tallystickref14_ordered.f l0_7).bind fun t214 => (if t211 = true then (if t214 = true then (if a0_0 ≥ 0 then (some (decide (a0_0 ≤ 255))) else (some false)) else (some false)) else (some false))) else (if t211 = true then (some false) else (some false)))) else (if t211 = true then (some false) else (some false)))) = some r := H
        have A8 := Aside0.mk A80
        clear A80
        replace H := Option.bind_eq_some_iff.mp H
        obtain ⟨t212, A90, H⟩ := H
        replace H : (if t212 = true then ((tallystickref14_ordered.f l0_6).bind fun t213 => (if t213 = true then ((tallystickref14_ordered.f l0_7).bind fun t214 => (if t211 = true then (if t214 = true then (if a0_0 ≥ 0 then (some (decide (a0_0 ≤ 255))) else (some false)) else (some false)) else (some false))) else (if t211 = true then (some false) else (some false)))) else (if t211 = true then (some false) else (some false))) = some r := H
        have A9 := Aside0.mk A90
        clear A90
        by_cases c10 : t212 = true
        · subst c10
          have H1 : ((tallystickref14_ordered.f l0_6).bind fun t213 => (if t213 = true then ((tallystickref14_ordered.f l0_7).bind fun t214 => (if t211 = true then (if t214 = true then (if a0_0 ≥ 0 then (some (decide (a0_0 ≤ 255))) else (some false)) else (some false)) else (some false))) else (if t211 = true then (some false) else (some false)))) = some r := by rw [if_pos rfl] at H; exact H
          clear H
          have H := H1
          clear H1
          replace H := Option.bind_eq_some_iff.mp H
          obtain ⟨t213, A110, H⟩ := H
          replace H : (if t213 = true then ((tallystickref14_ordered.f l0_7).bind fun t214 => (if t211 = true then (if t214 = true then (if a0_0 ≥ 0 then (some (decide (a0_0 ≤ 255))) else (some false)) else (some false)) else (some false))) else (if t211 = true then (some false) else (some false))) = some r := H
          have A11 := Aside0.mk A110
          clear A110
          by_cases c12 : t213 = true
          · subst c12
            have H1 : ((tallystickref14_ordered.f l0_7).bind fun t214 => (if t211 = true then (if t214 = true then (if a0_0 ≥ 0 then (some (decide (a0_0 ≤ 255))) else (some false)) else (some false)) else (some false))) = some r := by rw [if_pos rfl] at H; exact H
            clear H
            have H := H1
            clear H1
            replace H := Option.bind_eq_some_iff.mp H
            obtain ⟨t214, A130, H⟩ := H
            replace H : (if t211 = true then (if t214 = true then (if a0_0 ≥ 0 then (some (decide (a0_0 ≤ 255))) else (some false)) else (some false)) else (some false)) = some r := H
            have A13 := Aside0.mk A130
            clear A130
            by_cases c14 : t211 = true
            · subst c14
              have H1 : (if t214 = true then (if a0_0 ≥ 0 then (some (decide (a0_0 ≤ 255))) else (some false)) else (some false)) = some r := by rw [if_pos rfl] at H; exact H
              clear H
              have H := H1
              clear H1
              by_cases c15 : t214 = true
              · subst c15
                have H1 : (if a0_0 ≥ 0 then (some (decide (a0_0 ≤ 255))) else (some false)) = some r := by rw [if_pos rfl] at H; exact H
                clear H
                have H := H1
                clear H1
                by_cases c16 : a0_0 ≥ 0
                · rw [if_pos c16] at H
                  have c16b0 : decide (0 ≤ a0_0) = true := decide_eq_true c16
                  clear c16
                  obtain rfl := Option.some.inj H
                  go_enter Tryd.func43, Tryd.ntmps43
                  go_wp2_with (first | ((with_reducible refine gate_dst (N := 1) rfl ?_); refine box_event ?hg (N := 1) ?hd (cs := #[.int .i64 a0_0, .int .i64 a0_1, .int .i64 a0_2, .int .i64 a0_3, .int .i64 a0_4, .slice A0_5 l0_5.length c0_5, .slice A0_6 l0_6.length c0_6, .slice A0_7 l0_7.length c0_7, .bool a0_8]) (t := 63) ?hr ?_; (case hd => rfl); (case hg => rfl); (case hr => first | (go_simp; done) | (go_simp; rfl)); intro gb207 hg w17 hbox hb; have n0_ := Aside0.mk (below_step (by repeat (first | (with_reducible first | exact HB.out | apply below_alloc | apply pw_below_drewN | apply below_drew1) | exact HB.out)) hb); have n1_ := Aside0.mk (hbox); have n2_ := Aside0.mk ((by rw [hg]; exact (below_size (by repeat (first | (with_reducible first | exact HB.out | apply below_alloc | apply pw_below_drewN | apply below_drew1) | exact HB.out))) : w.heap.size ≤ gb207)); have n3_ := Aside0.mk ((by rw [hg]; exact (below_size (by repeat (first | (with_reducible first | exact HB.out | apply below_alloc | apply pw_below_drewN | apply below_drew1) | exact HB.out))) : w.heap.size ≤ gb207)); clear HB; have HB := n0_; have BK207 := n1_; have GW207 := n2_; have GE207 := n3_; clear n0_ n1_ n2_ n3_; clear hb hbox hg; have hcz18_0 : w17.cell? ⟨gb207, 0, none⟩ = some (.int .i64 a0_0) := (blk_cell BK207.out 0).trans rfl; have hcz18_1 : w17.cell? ⟨gb207, 1, none⟩ = some (.int .i64 a0_1) := (blk_cell BK207.out 1).trans rfl; have hcz18_2 : w17.cell? ⟨gb207, 2, none⟩ = some (.int .i64 a0_2) := (blk_cell BK207.out 2).trans rfl; have hcz18_3 : w17.cell? ⟨gb207, 3, none⟩ = some (.int .i64 a0_3) := (blk_cell BK207.out 3).trans rfl; have hcz18_4 : w17.cell? ⟨gb207, 4, none⟩ = some (.int .i64 a0_4) := (blk_cell BK207.out 4).trans rfl; have hcz18_5 : w17.cell? ⟨gb207, 5, none⟩ = some (.slice A0_5 l0_5.length c0_5) := (blk_cell BK207.out 5).trans rfl; have hcz18_6 : w17.cell? ⟨gb207, 6, none⟩ = some (.slice A0_6 l0_6.length c0_6) := (blk_cell BK207.out 6).trans rfl; have hcz18_7 : w17.cell? ⟨gb207, 7, none⟩ = some (.slice A0_7 l0_7.length c0_7) := (blk_cell BK207.out 7).trans rfl; have hcz18_8 : w17.cell? ⟨gb207, 8, none⟩ = some (.bool a0_8) := (blk_cell BK207.out 8).trans rfl; have hfz18_0 := blk_frozen BK207.out 0; have hfz18_1 := blk_frozen BK207.out 1; have hfz18_2 := blk_frozen BK207.out 2; have hfz18_3 := blk_frozen BK207.out 3; have hfz18_4 := blk_frozen BK207.out 4; have hfz18_5 := blk_frozen BK207.out 5; have hfz18_6 := blk_frozen BK207.out 6; have hfz18_7 := blk_frozen BK207.out 7; have hfz18_8 := blk_frozen BK207.out 8) | ((with_reducible refine gate_callee (f := 61) rfl ?_); refine goesL_ (some 8) rfl rfl Tryd.func61 (by kernel_rfl) rfl #[.int .i64 a0_1] rfl (by (try simp only [List.map_toArray, List.map_cons, List.map_nil]); first | done | rfl | (simp only [List.length_drop, List.length_take]; rfl)) ?_; (with_reducible refine (tallystickref14_small.calls a0_1 true _ A2.out).mono ?_); rintro e w' ⟨rfl, ⟨nd, rfl⟩⟩; refine ⟨_, rfl, ?_⟩) | (go_at_call 61; (with_reducible refine (tallystickref14_small.calls a0_2 true _ A4.out).mono ?_); rintro e w' ⟨rfl, ⟨nd, rfl⟩⟩) | (go_at_call 61; (with_reducible refine (tallystickref14_small.calls a0_3 true _ A6.out).mono ?_); rintro e w' ⟨rfl, ⟨nd, rfl⟩⟩) | (go_at_call 61; (with_reducible refine (tallystickref14_small.calls a0_4 true _ A8.out).mono ?_); rintro e w' ⟨rfl, ⟨nd, rfl⟩⟩) | ((with_reducible refine gate_callee (f := 60) rfl ?_); refine goesL_ (some 32) rfl rfl Tryd.func60 (by kernel_rfl) rfl #[.slice A0_5 l0_5.length c0_5] rfl (by (try simp only [List.map_toArray, List.map_cons, List.map_nil]); first | done | rfl | (simp only [List.length_drop, List.length_take]; rfl)) ?_; (with_reducible refine (tallystickref14_ordered.calls _ _ l0_5 true _ ?side1 ?side2 A9.out).mono ?_); (case side1 => repeat (first | exact (Kd.C_below HR0_5.out (by repeat (first | (with_reducible first | exact HB.out | apply below_alloc | apply pw_below_drewN | apply below_drew1 | refine below_set ?_ GE207.out) | exact HB.out))) | (with_reducible refine Kd.C_alloc ?_ _) | (with_reducible refine Kd.C_drewN ?_ _) | (with_reducible refine Kd.C_drew ?_))); (case side2 => exact HC0_5.out); rintro e w' ⟨rfl, ⟨nd, rfl⟩⟩; refine ⟨_, rfl, ?_⟩) | (go_at_call 60; (with_reducible refine (tallystickref14_ordered.calls _ _ l0_6 true _ ?side1 ?side2 A11.out).mono ?_); (case side1 => repeat (first | exact (Kd.C_below HR0_6.out (by repeat (first | (with_reducible first | exact HB.out | apply below_alloc | apply pw_below_drewN | apply below_drew1 | refine below_set ?_ GE207.out) | exact HB.out))) | (with_reducible refine Kd.C_alloc ?_ _) | (with_reducible refine Kd.C_drewN ?_ _) | (with_reducible refine Kd.C_drew ?_))); (case side2 => exact HC0_6.out); rintro e w' ⟨rfl, ⟨nd, rfl⟩⟩) | (go_at_call 60; (with_reducible refine (tallystickref14_ordered.calls _ _ l0_7 true _ ?side1 ?side2 A13.out).mono ?_); (case side1 => repeat (first | exact (Kd.C_below HR0_7.out (by repeat (first | (with_reducible first | exact HB.out | apply below_alloc | apply pw_below_drewN | apply below_drew1 | refine below_set ?_ GE207.out) | exact HB.out))) | (with_reducible refine Kd.C_alloc ?_ _) | (with_reducible refine Kd.C_drewN ?_ _) | (with_reducible refine Kd.C_drew ?_))); (case side2 => exact HC0_7.out); rintro e w' ⟨rfl, ⟨nd, rfl⟩⟩))
                  go_ret
                  exact ⟨by first | rfl | (simp [errW_none, errW_some] <;> rfl) | (simp [*, errW_none, errW_some] <;> rfl), by repeat (first | (with_reducible first | exact HB.out | apply below_alloc | apply pw_below_drewN | apply below_drew1 | refine below_set ?_ GE207.out) | exact HB.out)⟩
                · rw [if_neg c16] at H
                  have c16b0 : decide (0 ≤ a0_0) = false := decide_eq_false c16
                  clear c16
                  obtain rfl := Option.some.inj H
                  go_enter Tryd.func43, Tryd.ntmps43
                  go_wp2_with (first | ((with_reducible refine gate_dst (N := 1) rfl ?_); refine box_event ?hg (N := 1) ?hd (cs := #[.int .i64 a0_0, .int .i64 a0_1, .int .i64 a0_2, .int .i64 a0_3, .int .i64 a0_4, .slice A0_5 l0_5.length c0_5, .slice A0_6 l0_6.length c0_6, .slice A0_7 l0_7.length c0_7, .bool a0_8]) (t := 63) ?hr ?_; (case hd => rfl); (case hg => rfl); (case hr => first | (go_simp; done) | (go_simp; rfl)); intro gb207 hg w19 hbox hb; have n0_ := Aside0.mk (below_step (by repeat (first | (with_reducible first | exact HB.out | apply below_alloc | apply pw_below_drewN | apply below_drew1) | exact HB.out)) hb); have n1_ := Aside0.mk (hbox); have n2_ := Aside0.mk ((by rw [hg]; exact (below_size (by repeat (first | (with_reducible first | exact HB.out | apply below_alloc | apply pw_below_drewN | apply below_drew1) | exact HB.out))) : w.heap.size ≤ gb207)); have n3_ := Aside0.mk ((by rw [hg]; exact (below_size (by repeat (first | (with_reducible first | exact HB.out | apply below_alloc | apply pw_below_drewN | apply below_drew1) | exact HB.out))) : w.heap.size ≤ gb207)); clear HB; have HB := n0_; have BK207 := n1_; have GW207 := n2_; have GE207 := n3_; clear n0_ n1_ n2_ n3_; clear hb hbox hg; have hcz20_0 : w19.cell? ⟨gb207, 0, none⟩ = some (.int .i64 a0_0) := (blk_cell BK207.out 0).trans rfl; have hcz20_1 : w19.cell? ⟨gb207, 1, none⟩ = some (.int .i64 a0_1) := (blk_cell BK207.out 1).trans rfl; have hcz20_2 : w19.cell? ⟨gb207, 2, none⟩ = some (.int .i64 a0_2) := (blk_cell BK207.out 2).trans rfl; have hcz20_3 : w19.cell? ⟨gb207, 3, none⟩ = some (.int .i64 a0_3) := (blk_cell BK207.out 3).trans rfl; have hcz20_4 : w19.cell? ⟨gb207, 4, none⟩ = some (.int .i64 a0_4) := (blk_cell BK207.out 4).trans rfl; have hcz20_5 : w19.cell? ⟨gb207, 5, none⟩ = some (.slice A0_5 l0_5.length c0_5) := (blk_cell BK207.out 5).trans rfl; have hcz20_6 : w19.cell? ⟨gb207, 6, none⟩ = some (.slice A0_6 l0_6.length c0_6) := (blk_cell BK207.out 6).trans rfl; have hcz20_7 : w19.cell? ⟨gb207, 7, none⟩ = some (.slice A0_7 l0_7.length c0_7) := (blk_cell BK207.out 7).trans rfl; have hcz20_8 : w19.cell? ⟨gb207, 8, none⟩ = some (.bool a0_8) := (blk_cell BK207.out 8).trans rfl; have hfz20_0 := blk_frozen BK207.out 0; have hfz20_1 := blk_frozen BK207.out 1; have hfz20_2 := blk_frozen BK207.out 2; have hfz20_3 := blk_frozen BK207.out 3; have hfz20_4 := blk_frozen BK207.out 4; have hfz20_5 := blk_frozen BK207.out 5; have hfz20_6 := blk_frozen BK207.out 6; have hfz20_7 := blk_frozen BK207.out 7; have hfz20_8 := blk_frozen BK207.out 8) | ((with_reducible refine gate_callee (f := 61) rfl ?_); refine goesL_ (some 8) rfl rfl Tryd.func61 (by kernel_rfl) rfl #[.int .i64 a0_1] rfl (by (try simp only [List.map_toArray, List.map_cons, List.map_nil]); first | done | rfl | (simp only [List.length_drop, List.length_take]; rfl)) ?_; (with_reducible refine (tallystickref14_small.calls a0_1 true _ A2.out).mono ?_); rintro e w' ⟨rfl, ⟨nd, rfl⟩⟩; refine ⟨_, rfl, ?_⟩) | (go_at_call 61; (with_reducible refine (tallystickref14_small.calls a0_2 true _ A4.out).mono ?_); rintro e w' ⟨rfl, ⟨nd, rfl⟩⟩) | (go_at_call 61; (with_reducible refine (tallystickref14_small.calls a0_3 true _ A6.out).mono ?_); rintro e w' ⟨rfl, ⟨nd, rfl⟩⟩) | (go_at_call 61; (with_reducible refine (tallystickref14_small.calls a0_4 true _ A8.out).mono ?_); rintro e w' ⟨rfl, ⟨nd, rfl⟩⟩) | ((with_reducible refine gate_callee (f := 60) rfl ?_); refine goesL_ (some 32) rfl rfl Tryd.func60 (by kernel_rfl) rfl #[.slice A0_5 l0_5.length c0_5] rfl (by (try simp only [List.map_toArray, List.map_cons, List.map_nil]); first | done | rfl | (simp only [List.length_drop, List.length_take]; rfl)) ?_; (with_reducible refine (tallystickref14_ordered.calls _ _ l0_5 true _ ?side1 ?side2 A9.out).mono ?_); (case side1 => repeat (first | exact (Kd.C_below HR0_5.out (by repeat (first | (with_reducible first | exact HB.out | apply below_alloc | apply pw_below_drewN | apply below_drew1 | refine below_set ?_ GE207.out) | exact HB.out))) | (with_reducible refine Kd.C_alloc ?_ _) | (with_reducible refine Kd.C_drewN ?_ _) | (with_reducible refine Kd.C_drew ?_))); (case side2 => exact HC0_5.out); rintro e w' ⟨rfl, ⟨nd, rfl⟩⟩; refine ⟨_, rfl, ?_⟩) | (go_at_call 60; (with_reducible refine (tallystickref14_ordered.calls _ _ l0_6 true _ ?side1 ?side2 A11.out).mono ?_); (case side1 => repeat (first | exact (Kd.C_below HR0_6.out (by repeat (first | (with_reducible first | exact HB.out | apply below_alloc | apply pw_below_drewN | apply below_drew1 | refine below_set ?_ GE207.out) | exact HB.out))) | (with_reducible refine Kd.C_alloc ?_ _) | (with_reducible refine Kd.C_drewN ?_ _) | (with_reducible refine Kd.C_drew ?_))); (case side2 => exact HC0_6.out); rintro e w' ⟨rfl, ⟨nd, rfl⟩⟩) | (go_at_call 60; (with_reducible refine (tallystickref14_ordered.calls _ _ l0_7 true _ ?side1 ?side2 A13.out).mono ?_); (case side1 => repeat (first | exact (Kd.C_below HR0_7.out (by repeat (first | (with_reducible first | exact HB.out | apply below_alloc | apply pw_below_drewN | apply below_drew1 | refine below_set ?_ GE207.out) | exact HB.out))) | (with_reducible refine Kd.C_alloc ?_ _) | (with_reducible refine Kd.C_drewN ?_ _) | (with_reducible refine Kd.C_drew ?_))); (case side2 => exact HC0_7.out); rintro e w' ⟨rfl, ⟨nd, rfl⟩⟩))
                  go_ret
                  exact ⟨by first | rfl | (simp [errW_none, errW_some] <;> rfl) | (simp [*, errW_none, errW_some] <;> rfl), by repeat (first | (with_reducible first | exact HB.out | apply below_alloc | apply pw_below_drewN | apply below_drew1 | refine below_set ?_ GE207.out) | exact HB.out)⟩
              · replace c15 := Bool.eq_false_iff.mpr c15
                subst c15
                have H1 : (some false) = some r := by rw [if_neg (show ¬ (false = true) by decide)] at H; exact H
                clear H
                have H := H1
                clear H1
                obtain rfl := Option.some.inj H
                go_enter Tryd.func43, Tryd.ntmps43
                go_wp2_with (first | ((with_reducible refine gate_dst (N := 1) rfl ?_); refine box_event ?hg (N := 1) ?hd (cs := #[.int .i64 a0_0, .int .i64 a0_1, .int .i64 a0_2, .int .i64 a0_3, .int .i64 a0_4, .slice A0_5 l0_5.length c0_5, .slice A0_6 l0_6.length c0_6, .slice A0_7 l0_7.length c0_7, .bool a0_8]) (t := 63) ?hr ?_; (case hd => rfl); (case hg => rfl); (case hr => first | (go_simp; done) | (go_simp; rfl)); intro gb207 hg w21 hbox hb; have n0_ := Aside0.mk (below_step (by repeat (first | (with_reducible first | exact HB.out | apply below_alloc | apply pw_below_drewN | apply below_drew1) | exact HB.out)) hb); have n1_ := Aside0.mk (hbox); have n2_ := Aside0.mk ((by rw [hg]; exact (below_size (by repeat (first | (with_reducible first | exact HB.out | apply below_alloc | apply pw_below_drewN | apply below_drew1) | exact HB.out))) : w.heap.size ≤ gb207)); have n3_ := Aside0.mk ((by rw [hg]; exact (below_size (by repeat (first | (with_reducible first | exact HB.out | apply below_alloc | apply pw_below_drewN | apply below_drew1) | exact HB.out))) : w.heap.size ≤ gb207)); clear HB; have HB := n0_; have BK207 := n1_; have GW207 := n2_; have GE207 := n3_; clear n0_ n1_ n2_ n3_; clear hb hbox hg; have hcz22_0 : w21.cell? ⟨gb207, 0, none⟩ = some (.int .i64 a0_0) := (blk_cell BK207.out 0).trans rfl; have hcz22_1 : w21.cell? ⟨gb207, 1, none⟩ = some (.int .i64 a0_1) := (blk_cell BK207.out 1).trans rfl; have hcz22_2 : w21.cell? ⟨gb207, 2, none⟩ = some (.int .i64 a0_2) := (blk_cell BK207.out 2).trans rfl; have hcz22_3 : w21.cell? ⟨gb207, 3, none⟩ = some (.int .i64 a0_3) := (blk_cell BK207.out 3).trans rfl; have hcz22_4 : w21.cell? ⟨gb207, 4, none⟩ = some (.int .i64 a0_4) := (blk_cell BK207.out 4).trans rfl; have hcz22_5 : w21.cell? ⟨gb207, 5, none⟩ = some (.slice A0_5 l0_5.length c0_5) := (blk_cell BK207.out 5).trans rfl; have hcz22_6 : w21.cell? ⟨gb207, 6, none⟩ = some (.slice A0_6 l0_6.length c0_6) := (blk_cell BK207.out 6).trans rfl; have hcz22_7 : w21.cell? ⟨gb207, 7, none⟩ = some (.slice A0_7 l0_7.length c0_7) := (blk_cell BK207.out 7).trans rfl; have hcz22_8 : w21.cell? ⟨gb207, 8, none⟩ = some (.bool a0_8) := (blk_cell BK207.out 8).trans rfl; have hfz22_0 := blk_frozen BK207.out 0; have hfz22_1 := blk_frozen BK207.out 1; have hfz22_2 := blk_frozen BK207.out 2; have hfz22_3 := blk_frozen BK207.out 3; have hfz22_4 := blk_frozen BK207.out 4; have hfz22_5 := blk_frozen BK207.out 5; have hfz22_6 := blk_frozen BK207.out 6; have hfz22_7 := blk_frozen BK207.out 7; have hfz22_8 := blk_frozen BK207.out 8) | ((with_reducible refine gate_callee (f := 61) rfl ?_); refine goesL_ (some 8) rfl rfl Tryd.func61 (by kernel_rfl) rfl #[.int .i64 a0_1] rfl (by (try simp only [List.map_toArray, List.map_cons, List.map_nil]); first | done | rfl | (simp only [List.length_drop, List.length_take]; rfl)) ?_; (with_reducible refine (tallystickref14_small.calls a0_1 true _ A2.out).mono ?_); rintro e w' ⟨rfl, ⟨nd, rfl⟩⟩; refine ⟨_, rfl, ?_⟩) | (go_at_call 61; (with_reducible refine (tallystickref14_small.calls a0_2 true _ A4.out).mono ?_); rintro e w' ⟨rfl, ⟨nd, rfl⟩⟩) | (go_at_call 61; (with_reducible refine (tallystickref14_small.calls a0_3 true _ A6.out).mono ?_); rintro e w' ⟨rfl, ⟨nd, rfl⟩⟩) | (go_at_call 61; (with_reducible refine (tallystickref14_small.calls a0_4 true _ A8.out).mono ?_); rintro e w' ⟨rfl, ⟨nd, rfl⟩⟩) | ((with_reducible refine gate_callee (f := 60) rfl ?_); refine goesL_ (some 32) rfl rfl Tryd.func60 (by kernel_rfl) rfl #[.slice A0_5 l0_5.length c0_5] rfl (by (try simp only [List.map_toArray, List.map_cons, List.map_nil]); first | done | rfl | (simp only [List.length_drop, List.length_take]; rfl)) ?_; (with_reducible refine (tallystickref14_ordered.calls _ _ l0_5 true _ ?side1 ?side2 A9.out).mono ?_); (case side1 => repeat (first | exact (Kd.C_below HR0_5.out (by repeat (first | (with_reducible first | exact HB.out | apply below_alloc | apply pw_below_drewN | apply below_drew1 | refine below_set ?_ GE207.out) | exact HB.out))) | (with_reducible refine Kd.C_alloc ?_ _) | (with_reducible refine Kd.C_drewN ?_ _) | (with_reducible refine Kd.C_drew ?_))); (case side2 => exact HC0_5.out); rintro e w' ⟨rfl, ⟨nd, rfl⟩⟩; refine ⟨_, rfl, ?_⟩) | (go_at_call 60; (with_reducible refine (tallystickref14_ordered.calls _ _ l0_6 true _ ?side1 ?side2 A11.out).mono ?_); (case side1 => repeat (first | exact (Kd.C_below HR0_6.out (by repeat (first | (with_reducible first | exact HB.out | apply below_alloc | apply pw_below_drewN | apply below_drew1 | refine below_set ?_ GE207.out) | exact HB.out))) | (with_reducible refine Kd.C_alloc ?_ _) | (with_reducible refine Kd.C_drewN ?_ _) | (with_reducible refine Kd.C_drew ?_))); (case side2 => exact HC0_6.out); rintro e w' ⟨rfl, ⟨nd, rfl⟩⟩) | (go_at_call 60; (with_reducible refine (tallystickref14_ordered.calls _ _ l0_7 false _ ?side1 ?side2 A13.out).mono ?_); (case side1 => repeat (first | exact (Kd.C_below HR0_7.out (by repeat (first | (with_reducible first | exact HB.out | apply below_alloc | apply pw_below_drewN | apply below_drew1 | refine below_set ?_ GE207.out) | exact HB.out))) | (with_reducible refine Kd.C_alloc ?_ _) | (with_reducible refine Kd.C_drewN ?_ _) | (with_reducible refine Kd.C_drew ?_))); (case side2 => exact HC0_7.out); rintro e w' ⟨rfl, ⟨nd, rfl⟩⟩))
                go_ret
                exact ⟨by first | rfl | (simp [errW_none, errW_some] <;> rfl) | (simp [*, errW_none, errW_some] <;> rfl), by repeat (first | (with_reducible first | exact HB.out | apply below_alloc | apply pw_below_drewN | apply below_drew1 | refine below_set ?_ GE207.out) | exact HB.out)⟩
            · replace c14 := Bool.eq_false_iff.mpr c14
              subst c14
              have H1 : (some false) = some r := by rw [if_neg (show ¬ (false = true) by decide)] at H; exact H
              clear H
              have H := H1
              clear H1
              obtain rfl := Option.some.inj H
              go_enter Tryd.func43, Tryd.ntmps43
              go_wp2_with (first | ((with_reducible refine gate_dst (N := 1) rfl ?_); refine box_event ?hg (N := 1) ?hd (cs := #[.int .i64 a0_0, .int .i64 a0_1, .int .i64 a0_2, .int .i64 a0_3, .int .i64 a0_4, .slice A0_5 l0_5.length c0_5, .slice A0_6 l0_6.length c0_6, .slice A0_7 l0_7.length c0_7, .bool a0_8]) (t := 63) ?hr ?_; (case hd => rfl); (case hg => rfl); (case hr => first | (go_simp; done) | (go_simp; rfl)); intro gb207 hg w23 hbox hb; have n0_ := Aside0.mk (below_step (by repeat (first | (with_reducible first | exact HB.out | apply below_alloc | apply pw_below_drewN | apply below_drew1) | exact HB.out)) hb); have n1_ := Aside0.mk (hbox); have n2_ := Aside0.mk ((by rw [hg]; exact (below_size (by repeat (first | (with_reducible first | exact HB.out | apply below_alloc | apply pw_below_drewN | apply below_drew1) | exact HB.out))) : w.heap.size ≤ gb207)); have n3_ := Aside0.mk ((by rw [hg]; exact (below_size (by repeat (first | (with_reducible first | exact HB.out | apply below_alloc | apply pw_below_drewN | apply below_drew1) | exact HB.out))) : w.heap.size ≤ gb207)); clear HB; have HB := n0_; have BK207 := n1_; have GW207 := n2_; have GE207 := n3_; clear n0_ n1_ n2_ n3_; clear hb hbox hg; have hcz24_0 : w23.cell? ⟨gb207, 0, none⟩ = some (.int .i64 a0_0) := (blk_cell BK207.out 0).trans rfl; have hcz24_1 : w23.cell? ⟨gb207, 1, none⟩ = some (.int .i64 a0_1) := (blk_cell BK207.out 1).trans rfl; have hcz24_2 : w23.cell? ⟨gb207, 2, none⟩ = some (.int .i64 a0_2) := (blk_cell BK207.out 2).trans rfl; have hcz24_3 : w23.cell? ⟨gb207, 3, none⟩ = some (.int .i64 a0_3) := (blk_cell BK207.out 3).trans rfl; have hcz24_4 : w23.cell? ⟨gb207, 4, none⟩ = some (.int .i64 a0_4) := (blk_cell BK207.out 4).trans rfl; have hcz24_5 : w23.cell? ⟨gb207, 5, none⟩ = some (.slice A0_5 l0_5.length c0_5) := (blk_cell BK207.out 5).trans rfl; have hcz24_6 : w23.cell? ⟨gb207, 6, none⟩ = some (.slice A0_6 l0_6.length c0_6) := (blk_cell BK207.out 6).trans rfl; have hcz24_7 : w23.cell? ⟨gb207, 7, none⟩ = some (.slice A0_7 l0_7.length c0_7) := (blk_cell BK207.out 7).trans rfl; have hcz24_8 : w23.cell? ⟨gb207, 8, none⟩ = some (.bool a0_8) := (blk_cell BK207.out 8).trans rfl; have hfz24_0 := blk_frozen BK207.out 0; have hfz24_1 := blk_frozen BK207.out 1; have hfz24_2 := blk_frozen BK207.out 2; have hfz24_3 := blk_frozen BK207.out 3; have hfz24_4 := blk_frozen BK207.out 4; have hfz24_5 := blk_frozen BK207.out 5; have hfz24_6 := blk_frozen BK207.out 6; have hfz24_7 := blk_frozen BK207.out 7; have hfz24_8 := blk_frozen BK207.out 8) | ((with_reducible refine gate_callee (f := 61) rfl ?_); refine goesL_ (some 8) rfl rfl Tryd.func61 (by kernel_rfl) rfl #[.int .i64 a0_1] rfl (by (try simp only [List.map_toArray, List.map_cons, List.map_nil]); first | done | rfl | (simp only [List.length_drop, List.length_take]; rfl)) ?_; (with_reducible refine (tallystickref14_small.calls a0_1 true _ A2.out).mono ?_); rintro e w' ⟨rfl, ⟨nd, rfl⟩⟩; refine ⟨_, rfl, ?_⟩) | (go_at_call 61; (with_reducible refine (tallystickref14_small.calls a0_2 true _ A4.out).mono ?_); rintro e w' ⟨rfl, ⟨nd, rfl⟩⟩) | (go_at_call 61; (with_reducible refine (tallystickref14_small.calls a0_3 true _ A6.out).mono ?_); rintro e w' ⟨rfl, ⟨nd, rfl⟩⟩) | (go_at_call 61; (with_reducible refine (tallystickref14_small.calls a0_4 false _ A8.out).mono ?_); rintro e w' ⟨rfl, ⟨nd, rfl⟩⟩) | ((with_reducible refine gate_callee (f := 60) rfl ?_); refine goesL_ (some 32) rfl rfl Tryd.func60 (by kernel_rfl) rfl #[.slice A0_5 l0_5.length c0_5] rfl (by (try simp only [List.map_toArray, List.map_cons, List.map_nil]); first | done | rfl | (simp only [List.length_drop, List.length_take]; rfl)) ?_; (with_reducible refine (tallystickref14_ordered.calls _ _ l0_5 true _ ?side1 ?side2 A9.out).mono ?_); (case side1 => repeat (first | exact (Kd.C_below HR0_5.out (by repeat (first | (with_reducible first | exact HB.out | apply below_alloc | apply pw_below_drewN | apply below_drew1 | refine below_set ?_ GE207.out) | exact HB.out))) | (with_reducible refine Kd.C_alloc ?_ _) | (with_reducible refine Kd.C_drewN ?_ _) | (with_reducible refine Kd.C_drew ?_))); (case side2 => exact HC0_5.out); rintro e w' ⟨rfl, ⟨nd, rfl⟩⟩; refine ⟨_, rfl, ?_⟩) | (go_at_call 60; (with_reducible refine (tallystickref14_ordered.calls _ _ l0_6 true _ ?side1 ?side2 A11.out).mono ?_); (case side1 => repeat (first | exact (Kd.C_below HR0_6.out (by repeat (first | (with_reducible first | exact HB.out | apply below_alloc | apply pw_below_drewN | apply below_drew1 | refine below_set ?_ GE207.out) | exact HB.out))) | (with_reducible refine Kd.C_alloc ?_ _) | (with_reducible refine Kd.C_drewN ?_ _) | (with_reducible refine Kd.C_drew ?_))); (case side2 => exact HC0_6.out); rintro e w' ⟨rfl, ⟨nd, rfl⟩⟩) | (go_at_call 60; (with_reducible refine (tallystickref14_ordered.calls _ _ l0_7 t214 _ ?side1 ?side2 A13.out).mono ?_); (case side1 => repeat (first | exact (Kd.C_below HR0_7.out (by repeat (first | (with_reducible first | exact HB.out | apply below_alloc | apply pw_below_drewN | apply below_drew1 | refine below_set ?_ GE207.out) | exact HB.out))) | (with_reducible refine Kd.C_alloc ?_ _) | (with_reducible refine Kd.C_drewN ?_ _) | (with_reducible refine Kd.C_drew ?_))); (case side2 => exact HC0_7.out); rintro e w' ⟨rfl, ⟨nd, rfl⟩⟩))
              go_ret
              exact ⟨by first | rfl | (simp [errW_none, errW_some] <;> rfl) | (simp [*, errW_none, errW_some] <;> rfl), by repeat (first | (with_reducible first | exact HB.out | apply below_alloc | apply pw_below_drewN | apply below_drew1 | refine below_set ?_ GE207.out) | exact HB.out)⟩
          · replace c12 := Bool.eq_false_iff.mpr c12
            subst c12
            have H1 : (if t211 = true then (some false) else (some false)) = some r := by rw [if_neg (show ¬ (false = true) by decide)] at H; exact H
            clear H
            have H := H1
            clear H1
            by_cases c25 : t211 = true
            · subst c25
              have H1 : (some false) = some r := by rw [if_pos rfl] at H; exact H
              clear H
              have H := H1
              clear H1
              obtain rfl := Option.some.inj H
              go_enter Tryd.func43, Tryd.ntmps43
              go_wp2_with (first | ((with_reducible refine gate_dst (N := 1) rfl ?_); refine box_event ?hg (N := 1) ?hd (cs := #[.int .i64 a0_0, .int .i64 a0_1, .int .i64 a0_2, .int .i64 a0_3, .int .i64 a0_4, .slice A0_5 l0_5.length c0_5, .slice A0_6 l0_6.length c0_6, .slice A0_7 l0_7.length c0_7, .bool a0_8]) (t := 63) ?hr ?_; (case hd => rfl); (case hg => rfl); (case hr => first | (go_simp; done) | (go_simp; rfl)); intro gb207 hg w26 hbox hb; have n0_ := Aside0.mk (below_step (by repeat (first | (with_reducible first | exact HB.out | apply below_alloc | apply pw_below_drewN | apply below_drew1) | exact HB.out)) hb); have n1_ := Aside0.mk (hbox); have n2_ := Aside0.mk ((by rw [hg]; exact (below_size (by repeat (first | (with_reducible first | exact HB.out | apply below_alloc | apply pw_below_drewN | apply below_drew1) | exact HB.out))) : w.heap.size ≤ gb207)); have n3_ := Aside0.mk ((by rw [hg]; exact (below_size (by repeat (first | (with_reducible first | exact HB.out | apply below_alloc | apply pw_below_drewN | apply below_drew1) | exact HB.out))) : w.heap.size ≤ gb207)); clear HB; have HB := n0_; have BK207 := n1_; have GW207 := n2_; have GE207 := n3_; clear n0_ n1_ n2_ n3_; clear hb hbox hg; have hcz27_0 : w26.cell? ⟨gb207, 0, none⟩ = some (.int .i64 a0_0) := (blk_cell BK207.out 0).trans rfl; have hcz27_1 : w26.cell? ⟨gb207, 1, none⟩ = some (.int .i64 a0_1) := (blk_cell BK207.out 1).trans rfl; have hcz27_2 : w26.cell? ⟨gb207, 2, none⟩ = some (.int .i64 a0_2) := (blk_cell BK207.out 2).trans rfl; have hcz27_3 : w26.cell? ⟨gb207, 3, none⟩ = some (.int .i64 a0_3) := (blk_cell BK207.out 3).trans rfl; have hcz27_4 : w26.cell? ⟨gb207, 4, none⟩ = some (.int .i64 a0_4) := (blk_cell BK207.out 4).trans rfl; have hcz27_5 : w26.cell? ⟨gb207, 5, none⟩ = some (.slice A0_5 l0_5.length c0_5) := (blk_cell BK207.out 5).trans rfl; have hcz27_6 : w26.cell? ⟨gb207, 6, none⟩ = some (.slice A0_6 l0_6.length c0_6) := (blk_cell BK207.out 6).trans rfl; have hcz27_7 : w26.cell? ⟨gb207, 7, none⟩ = some (.slice A0_7 l0_7.length c0_7) := (blk_cell BK207.out 7).trans rfl; have hcz27_8 : w26.cell? ⟨gb207, 8, none⟩ = some (.bool a0_8) := (blk_cell BK207.out 8).trans rfl; have hfz27_0 := blk_frozen BK207.out 0; have hfz27_1 := blk_frozen BK207.out 1; have hfz27_2 := blk_frozen BK207.out 2; have hfz27_3 := blk_frozen BK207.out 3; have hfz27_4 := blk_frozen BK207.out 4; have hfz27_5 := blk_frozen BK207.out 5; have hfz27_6 := blk_frozen BK207.out 6; have hfz27_7 := blk_frozen BK207.out 7; have hfz27_8 := blk_frozen BK207.out 8) | ((with_reducible refine gate_callee (f := 61) rfl ?_); refine goesL_ (some 8) rfl rfl Tryd.func61 (by kernel_rfl) rfl #[.int .i64 a0_1] rfl (by (try simp only [List.map_toArray, List.map_cons, List.map_nil]); first | done | rfl | (simp only [List.length_drop, List.length_take]; rfl)) ?_; (with_reducible refine (tallystickref14_small.calls a0_1 true _ A2.out).mono ?_); rintro e w' ⟨rfl, ⟨nd, rfl⟩⟩; refine ⟨_, rfl, ?_⟩) | (go_at_call 61; (with_reducible refine (tallystickref14_small.calls a0_2 true _ A4.out).mono ?_); rintro e w' ⟨rfl, ⟨nd, rfl⟩⟩) | (go_at_call 61; (with_reducible refine (tallystickref14_small.calls a0_3 true _ A6.out).mono ?_); rintro e w' ⟨rfl, ⟨nd, rfl⟩⟩) | (go_at_call 61; (with_reducible refine (tallystickref14_small.calls a0_4 true _ A8.out).mono ?_); rintro e w' ⟨rfl, ⟨nd, rfl⟩⟩) | ((with_reducible refine gate_callee (f := 60) rfl ?_); refine goesL_ (some 32) rfl rfl Tryd.func60 (by kernel_rfl) rfl #[.slice A0_5 l0_5.length c0_5] rfl (by (try simp only [List.map_toArray, List.map_cons, List.map_nil]); first | done | rfl | (simp only [List.length_drop, List.length_take]; rfl)) ?_; (with_reducible refine (tallystickref14_ordered.calls _ _ l0_5 true _ ?side1 ?side2 A9.out).mono ?_); (case side1 => repeat (first | exact (Kd.C_below HR0_5.out (by repeat (first | (with_reducible first | exact HB.out | apply below_alloc | apply pw_below_drewN | apply below_drew1 | refine below_set ?_ GE207.out) | exact HB.out))) | (with_reducible refine Kd.C_alloc ?_ _) | (with_reducible refine Kd.C_drewN ?_ _) | (with_reducible refine Kd.C_drew ?_))); (case side2 => exact HC0_5.out); rintro e w' ⟨rfl, ⟨nd, rfl⟩⟩; refine ⟨_, rfl, ?_⟩) | (go_at_call 60; (with_reducible refine (tallystickref14_ordered.calls _ _ l0_6 false _ ?side1 ?side2 A11.out).mono ?_); (case side1 => repeat (first | exact (Kd.C_below HR0_6.out (by repeat (first | (with_reducible first | exact HB.out | apply below_alloc | apply pw_below_drewN | apply below_drew1 | refine below_set ?_ GE207.out) | exact HB.out))) | (with_reducible refine Kd.C_alloc ?_ _) | (with_reducible refine Kd.C_drewN ?_ _) | (with_reducible refine Kd.C_drew ?_))); (case side2 => exact HC0_6.out); rintro e w' ⟨rfl, ⟨nd, rfl⟩⟩))
              go_ret
              exact ⟨by first | rfl | (simp [errW_none, errW_some] <;> rfl) | (simp [*, errW_none, errW_some] <;> rfl), by repeat (first | (with_reducible first | exact HB.out | apply below_alloc | apply pw_below_drewN | apply below_drew1 | refine below_set ?_ GE207.out) | exact HB.out)⟩
            · replace c25 := Bool.eq_false_iff.mpr c25
              subst c25
              have H1 : (some false) = some r := by rw [if_neg (show ¬ (false = true) by decide)] at H; exact H
              clear H
              have H := H1
              clear H1
              obtain rfl := Option.some.inj H
              go_enter Tryd.func43, Tryd.ntmps43
              go_wp2_with (first | ((with_reducible refine gate_dst (N := 1) rfl ?_); refine box_event ?hg (N := 1) ?hd (cs := #[.int .i64 a0_0, .int .i64 a0_1, .int .i64 a0_2, .int .i64 a0_3, .int .i64 a0_4, .slice A0_5 l0_5.length c0_5, .slice A0_6 l0_6.length c0_6, .slice A0_7 l0_7.length c0_7, .bool a0_8]) (t := 63) ?hr ?_; (case hd => rfl); (case hg => rfl); (case hr => first | (go_simp; done) | (go_simp; rfl)); intro gb207 hg w28 hbox hb; have n0_ := Aside0.mk (below_step (by repeat (first | (with_reducible first | exact HB.out | apply below_alloc | apply pw_below_drewN | apply below_drew1) | exact HB.out)) hb); have n1_ := Aside0.mk (hbox); have n2_ := Aside0.mk ((by rw [hg]; exact (below_size (by repeat (first | (with_reducible first | exact HB.out | apply below_alloc | apply pw_below_drewN | apply below_drew1) | exact HB.out))) : w.heap.size ≤ gb207)); have n3_ := Aside0.mk ((by rw [hg]; exact (below_size (by repeat (first | (with_reducible first | exact HB.out | apply below_alloc | apply pw_below_drewN | apply below_drew1) | exact HB.out))) : w.heap.size ≤ gb207)); clear HB; have HB := n0_; have BK207 := n1_; have GW207 := n2_; have GE207 := n3_; clear n0_ n1_ n2_ n3_; clear hb hbox hg; have hcz29_0 : w28.cell? ⟨gb207, 0, none⟩ = some (.int .i64 a0_0) := (blk_cell BK207.out 0).trans rfl; have hcz29_1 : w28.cell? ⟨gb207, 1, none⟩ = some (.int .i64 a0_1) := (blk_cell BK207.out 1).trans rfl; have hcz29_2 : w28.cell? ⟨gb207, 2, none⟩ = some (.int .i64 a0_2) := (blk_cell BK207.out 2).trans rfl; have hcz29_3 : w28.cell? ⟨gb207, 3, none⟩ = some (.int .i64 a0_3) := (blk_cell BK207.out 3).trans rfl; have hcz29_4 : w28.cell? ⟨gb207, 4, none⟩ = some (.int .i64 a0_4) := (blk_cell BK207.out 4).trans rfl; have hcz29_5 : w28.cell? ⟨gb207, 5, none⟩ = some (.slice A0_5 l0_5.length c0_5) := (blk_cell BK207.out 5).trans rfl; have hcz29_6 : w28.cell? ⟨gb207, 6, none⟩ = some (.slice A0_6 l0_6.length c0_6) := (blk_cell BK207.out 6).trans rfl; have hcz29_7 : w28.cell? ⟨gb207, 7, none⟩ = some (.slice A0_7 l0_7.length c0_7) := (blk_cell BK207.out 7).trans rfl; have hcz29_8 : w28.cell? ⟨gb207, 8, none⟩ = some (.bool a0_8) := (blk_cell BK207.out 8).trans rfl; have hfz29_0 := blk_frozen BK207.out 0; have hfz29_1 := blk_frozen BK207.out 1; have hfz29_2 := blk_frozen BK207.out 2; have hfz29_3 := blk_frozen BK207.out 3; have hfz29_4 := blk_frozen BK207.out 4; have hfz29_5 := blk_frozen BK207.out 5; have hfz29_6 := blk_frozen BK207.out 6; have hfz29_7 := blk_frozen BK207.out 7; have hfz29_8 := blk_frozen BK207.out 8) | ((with_reducible refine gate_callee (f := 61) rfl ?_); refine goesL_ (some 8) rfl rfl Tryd.func61 (by kernel_rfl) rfl #[.int .i64 a0_1] rfl (by (try simp only [List.map_toArray, List.map_cons, List.map_nil]); first | done | rfl | (simp only [List.length_drop, List.length_take]; rfl)) ?_; (with_reducible refine (tallystickref14_small.calls a0_1 true _ A2.out).mono ?_); rintro e w' ⟨rfl, ⟨nd, rfl⟩⟩; refine ⟨_, rfl, ?_⟩) | (go_at_call 61; (with_reducible refine (tallystickref14_small.calls a0_2 true _ A4.out).mono ?_); rintro e w' ⟨rfl, ⟨nd, rfl⟩⟩) | (go_at_call 61; (with_reducible refine (tallystickref14_small.calls a0_3 true _ A6.out).mono ?_); rintro e w' ⟨rfl, ⟨nd, rfl⟩⟩) | (go_at_call 61; (with_reducible refine (tallystickref14_small.calls a0_4 false _ A8.out).mono ?_); rintro e w' ⟨rfl, ⟨nd, rfl⟩⟩) | ((with_reducible refine gate_callee (f := 60) rfl ?_); refine goesL_ (some 32) rfl rfl Tryd.func60 (by kernel_rfl) rfl #[.slice A0_5 l0_5.length c0_5] rfl (by (try simp only [List.map_toArray, List.map_cons, List.map_nil]); first | done | rfl | (simp only [List.length_drop, List.length_take]; rfl)) ?_; (with_reducible refine (tallystickref14_ordered.calls _ _ l0_5 true _ ?side1 ?side2 A9.out).mono ?_); (case side1 => repeat (first | exact (Kd.C_below HR0_5.out (by repeat (first | (with_reducible first | exact HB.out | apply below_alloc | apply pw_below_drewN | apply below_drew1 | refine below_set ?_ GE207.out) | exact HB.out))) | (with_reducible refine Kd.C_alloc ?_ _) | (with_reducible refine Kd.C_drewN ?_ _) | (with_reducible refine Kd.C_drew ?_))); (case side2 => exact HC0_5.out); rintro e w' ⟨rfl, ⟨nd, rfl⟩⟩; refine ⟨_, rfl, ?_⟩) | (go_at_call 60; (with_reducible refine (tallystickref14_ordered.calls _ _ l0_6 false _ ?side1 ?side2 A11.out).mono ?_); (case side1 => repeat (first | exact (Kd.C_below HR0_6.out (by repeat (first | (with_reducible first | exact HB.out | apply below_alloc | apply pw_below_drewN | apply below_drew1 | refine below_set ?_ GE207.out) | exact HB.out))) | (with_reducible refine Kd.C_alloc ?_ _) | (with_reducible refine Kd.C_drewN ?_ _) | (with_reducible refine Kd.C_drew ?_))); (case side2 => exact HC0_6.out); rintro e w' ⟨rfl, ⟨nd, rfl⟩⟩))
              go_ret
              exact ⟨by first | rfl | (simp [errW_none, errW_some] <;> rfl) | (simp [*, errW_none, errW_some] <;> rfl), by repeat (first | (with_reducible first | exact HB.out | apply below_alloc | apply pw_below_drewN | apply below_drew1 | refine below_set ?_ GE207.out) | exact HB.out)⟩
        · replace c10 := Bool.eq_false_iff.mpr c10
          subst c10
          have H1 : (if t211 = true then (some false) else (some false)) = some r := by rw [if_neg (show ¬ (false = true) by decide)] at H; exact H
          clear H
          have H := H1
          clear H1
          by_cases c30 : t211 = true
          · subst c30
            have H1 : (some false) = some r := by rw [if_pos rfl] at H; exact H
            clear H
            have H := H1
            clear H1
            obtain rfl := Option.some.inj H
            go_enter Tryd.func43, Tryd.ntmps43
            go_wp2_with (first | ((with_reducible refine gate_dst (N := 1) rfl ?_); refine box_event ?hg (N := 1) ?hd (cs := #[.int .i64 a0_0, .int .i64 a0_1, .int .i64 a0_2, .int .i64 a0_3, .int .i64 a0_4, .slice A0_5 l0_5.length c0_5, .slice A0_6 l0_6.length c0_6, .slice A0_7 l0_7.length c0_7, .bool a0_8]) (t := 63) ?hr ?_; (case hd => rfl); (case hg => rfl); (case hr => first | (go_simp; done) | (go_simp; rfl)); intro gb207 hg w31 hbox hb; have n0_ := Aside0.mk (below_step (by repeat (first | (with_reducible first | exact HB.out | apply below_alloc | apply pw_below_drewN | apply below_drew1) | exact HB.out)) hb); have n1_ := Aside0.mk (hbox); have n2_ := Aside0.mk ((by rw [hg]; exact (below_size (by repeat (first | (with_reducible first | exact HB.out | apply below_alloc | apply pw_below_drewN | apply below_drew1) | exact HB.out))) : w.heap.size ≤ gb207)); have n3_ := Aside0.mk ((by rw [hg]; exact (below_size (by repeat (first | (with_reducible first | exact HB.out | apply below_alloc | apply pw_below_drewN | apply below_drew1) | exact HB.out))) : w.heap.size ≤ gb207)); clear HB; have HB := n0_; have BK207 := n1_; have GW207 := n2_; have GE207 := n3_; clear n0_ n1_ n2_ n3_; clear hb hbox hg; have hcz32_0 : w31.cell? ⟨gb207, 0, none⟩ = some (.int .i64 a0_0) := (blk_cell BK207.out 0).trans rfl; have hcz32_1 : w31.cell? ⟨gb207, 1, none⟩ = some (.int .i64 a0_1) := (blk_cell BK207.out 1).trans rfl; have hcz32_2 : w31.cell? ⟨gb207, 2, none⟩ = some (.int .i64 a0_2) := (blk_cell BK207.out 2).trans rfl; have hcz32_3 : w31.cell? ⟨gb207, 3, none⟩ = some (.int .i64 a0_3) := (blk_cell BK207.out 3).trans rfl; have hcz32_4 : w31.cell? ⟨gb207, 4, none⟩ = some (.int .i64 a0_4) := (blk_cell BK207.out 4).trans rfl; have hcz32_5 : w31.cell? ⟨gb207, 5, none⟩ = some (.slice A0_5 l0_5.length c0_5) := (blk_cell BK207.out 5).trans rfl; have hcz32_6 : w31.cell? ⟨gb207, 6, none⟩ = some (.slice A0_6 l0_6.length c0_6) := (blk_cell BK207.out 6).trans rfl; have hcz32_7 : w31.cell? ⟨gb207, 7, none⟩ = some (.slice A0_7 l0_7.length c0_7) := (blk_cell BK207.out 7).trans rfl; have hcz32_8 : w31.cell? ⟨gb207, 8, none⟩ = some (.bool a0_8) := (blk_cell BK207.out 8).trans rfl; have hfz32_0 := blk_frozen BK207.out 0; have hfz32_1 := blk_frozen BK207.out 1; have hfz32_2 := blk_frozen BK207.out 2; have hfz32_3 := blk_frozen BK207.out 3; have hfz32_4 := blk_frozen BK207.out 4; have hfz32_5 := blk_frozen BK207.out 5; have hfz32_6 := blk_frozen BK207.out 6; have hfz32_7 := blk_frozen BK207.out 7; have hfz32_8 := blk_frozen BK207.out 8) | ((with_reducible refine gate_callee (f := 61) rfl ?_); refine goesL_ (some 8) rfl rfl Tryd.func61 (by kernel_rfl) rfl #[.int .i64 a0_1] rfl (by (try simp only [List.map_toArray, List.map_cons, List.map_nil]); first | done | rfl | (simp only [List.length_drop, List.length_take]; rfl)) ?_; (with_reducible refine (tallystickref14_small.calls a0_1 true _ A2.out).mono ?_); rintro e w' ⟨rfl, ⟨nd, rfl⟩⟩; refine ⟨_, rfl, ?_⟩) | (go_at_call 61; (with_reducible refine (tallystickref14_small.calls a0_2 true _ A4.out).mono ?_); rintro e w' ⟨rfl, ⟨nd, rfl⟩⟩) | (go_at_call 61; (with_reducible refine (tallystickref14_small.calls a0_3 true _ A6.out).mono ?_); rintro e w' ⟨rfl, ⟨nd, rfl⟩⟩) | (go_at_call 61; (with_reducible refine (tallystickref14_small.calls a0_4 true _ A8.out).mono ?_); rintro e w' ⟨rfl, ⟨nd, rfl⟩⟩) | ((with_reducible refine gate_callee (f := 60) rfl ?_); refine goesL_ (some 32) rfl rfl Tryd.func60 (by kernel_rfl) rfl #[.slice A0_5 l0_5.length c0_5] rfl (by (try simp only [List.map_toArray, List.map_cons, List.map_nil]); first | done | rfl | (simp only [List.length_drop, List.length_take]; rfl)) ?_; (with_reducible refine (tallystickref14_ordered.calls _ _ l0_5 false _ ?side1 ?side2 A9.out).mono ?_); (case side1 => repeat (first | exact (Kd.C_below HR0_5.out (by repeat (first | (with_reducible first | exact HB.out | apply below_alloc | apply pw_below_drewN | apply below_drew1 | refine below_set ?_ GE207.out) | exact HB.out))) | (with_reducible refine Kd.C_alloc ?_ _) | (with_reducible refine Kd.C_drewN ?_ _) | (with_reducible refine Kd.C_drew ?_))); (case side2 => exact HC0_5.out); rintro e w' ⟨rfl, ⟨nd, rfl⟩⟩; refine ⟨_, rfl, ?_⟩))
            go_ret
            exact ⟨by first | rfl | (simp [errW_none, errW_some] <;> rfl) | (simp [*, errW_none, errW_some] <;> rfl), by repeat (first | (with_reducible first | exact HB.out | apply below_alloc | apply pw_below_drewN | apply below_drew1 | refine below_set ?_ GE207.out) | exact HB.out)⟩
          · replace c30 := Bool.eq_false_iff.mpr c30
            subst c30
            have H1 : (some false) = some r := by rw [if_neg (show ¬ (false = true) by decide)] at H; exact H
            clear H
            have H := H1
            clear H1
            obtain rfl := Option.some.inj H
            go_enter Tryd.func43, Tryd.ntmps43
            go_wp2_with (first | ((with_reducible refine gate_dst (N := 1) rfl ?_); refine box_event ?hg (N := 1) ?hd (cs := #[.int .i64 a0_0, .int .i64 a0_1, .int .i64 a0_2, .int .i64 a0_3, .int .i64 a0_4, .slice A0_5 l0_5.length c0_5, .slice A0_6 l0_6.length c0_6, .slice A0_7 l0_7.length c0_7, .bool a0_8]) (t := 63) ?hr ?_; (case hd => rfl); (case hg => rfl); (case hr => first | (go_simp; done) | (go_simp; rfl)); intro gb207 hg w33 hbox hb; have n0_ := Aside0.mk (below_step (by repeat (first | (with_reducible first | exact HB.out | apply below_alloc | apply pw_below_drewN | apply below_drew1) | exact HB.out)) hb); have n1_ := Aside0.mk (hbox); have n2_ := Aside0.mk ((by rw [hg]; exact (below_size (by repeat (first | (with_reducible first | exact HB.out | apply below_alloc | apply pw_below_drewN | apply below_drew1) | exact HB.out))) : w.heap.size ≤ gb207)); have n3_ := Aside0.mk ((by rw [hg]; exact (below_size (by repeat (first | (with_reducible first | exact HB.out | apply below_alloc | apply pw_below_drewN | apply below_drew1) | exact HB.out))) : w.heap.size ≤ gb207)); clear HB; have HB := n0_; have BK207 := n1_; have GW207 := n2_; have GE207 := n3_; clear n0_ n1_ n2_ n3_; clear hb hbox hg; have hcz34_0 : w33.cell? ⟨gb207, 0, none⟩ = some (.int .i64 a0_0) := (blk_cell BK207.out 0).trans rfl; have hcz34_1 : w33.cell? ⟨gb207, 1, none⟩ = some (.int .i64 a0_1) := (blk_cell BK207.out 1).trans rfl; have hcz34_2 : w33.cell? ⟨gb207, 2, none⟩ = some (.int .i64 a0_2) := (blk_cell BK207.out 2).trans rfl; have hcz34_3 : w33.cell? ⟨gb207, 3, none⟩ = some (.int .i64 a0_3) := (blk_cell BK207.out 3).trans rfl; have hcz34_4 : w33.cell? ⟨gb207, 4, none⟩ = some (.int .i64 a0_4) := (blk_cell BK207.out 4).trans rfl; have hcz34_5 : w33.cell? ⟨gb207, 5, none⟩ = some (.slice A0_5 l0_5.length c0_5) := (blk_cell BK207.out 5).trans rfl; have hcz34_6 : w33.cell? ⟨gb207, 6, none⟩ = some (.slice A0_6 l0_6.length c0_6) := (blk_cell BK207.out 6).trans rfl; have hcz34_7 : w33.cell? ⟨gb207, 7, none⟩ = some (.slice A0_7 l0_7.length c0_7) := (blk_cell BK207.out 7).trans rfl; have hcz34_8 : w33.cell? ⟨gb207, 8, none⟩ = some (.bool a0_8) := (blk_cell BK207.out 8).trans rfl; have hfz34_0 := blk_frozen BK207.out 0; have hfz34_1 := blk_frozen BK207.out 1; have hfz34_2 := blk_frozen BK207.out 2; have hfz34_3 := blk_frozen BK207.out 3; have hfz34_4 := blk_frozen BK207.out 4; have hfz34_5 := blk_frozen BK207.out 5; have hfz34_6 := blk_frozen BK207.out 6; have hfz34_7 := blk_frozen BK207.out 7; have hfz34_8 := blk_frozen BK207.out 8) | ((with_reducible refine gate_callee (f := 61) rfl ?_); refine goesL_ (some 8) rfl rfl Tryd.func61 (by kernel_rfl) rfl #[.int .i64 a0_1] rfl (by (try simp only [List.map_toArray, List.map_cons, List.map_nil]); first | done | rfl | (simp only [List.length_drop, List.length_take]; rfl)) ?_; (with_reducible refine (tallystickref14_small.calls a0_1 true _ A2.out).mono ?_); rintro e w' ⟨rfl, ⟨nd, rfl⟩⟩; refine ⟨_, rfl, ?_⟩) | (go_at_call 61; (with_reducible refine (tallystickref14_small.calls a0_2 true _ A4.out).mono ?_); rintro e w' ⟨rfl, ⟨nd, rfl⟩⟩) | (go_at_call 61; (with_reducible refine (tallystickref14_small.calls a0_3 true _ A6.out).mono ?_); rintro e w' ⟨rfl, ⟨nd, rfl⟩⟩) | (go_at_call 61; (with_reducible refine (tallystickref14_small.calls a0_4 false _ A8.out).mono ?_); rintro e w' ⟨rfl, ⟨nd, rfl⟩⟩) | ((with_reducible refine gate_callee (f := 60) rfl ?_); refine goesL_ (some 32) rfl rfl Tryd.func60 (by kernel_rfl) rfl #[.slice A0_5 l0_5.length c0_5] rfl (by (try simp only [List.map_toArray, List.map_cons, List.map_nil]); first | done | rfl | (simp only [List.length_drop, List.length_take]; rfl)) ?_; (with_reducible refine (tallystickref14_ordered.calls _ _ l0_5 false _ ?side1 ?side2 A9.out).mono ?_); (case side1 => repeat (first | exact (Kd.C_below HR0_5.out (by repeat (first | (with_reducible first | exact HB.out | apply below_alloc | apply pw_below_drewN | apply below_drew1 | refine below_set ?_ GE207.out) | exact HB.out))) | (with_reducible refine Kd.C_alloc ?_ _) | (with_reducible refine Kd.C_drewN ?_ _) | (with_reducible refine Kd.C_drew ?_))); (case side2 => exact HC0_5.out); rintro e w' ⟨rfl, ⟨nd, rfl⟩⟩; refine ⟨_, rfl, ?_⟩))
            go_ret
            exact ⟨by first | rfl | (simp [errW_none, errW_some] <;> rfl) | (simp [*, errW_none, errW_some] <;> rfl), by repeat (first | (with_reducible first | exact HB.out | apply below_alloc | apply pw_below_drewN | apply below_drew1 | refine below_set ?_ GE207.out) | exact HB.out)⟩
      · replace c7 := Bool.eq_false_iff.mpr c7
        subst c7
        have H1 : ((tallystickref14_ordered.f l0_5).bind fun t215 => (if t215 = true then ((tallystickref14_ordered.f l0_6).bind fun t216 => (if t216 = true then ((tallystickref14_ordered.f l0_7).bind fun t217 => (some false)) else (some false))) else (some false))) = some r := by rw [if_neg (show ¬ (false = true) by decide)] at H; exact H
        clear H
        have H := H1
        clear H1
        replace H := Option.bind_eq_some_iff.mp H
        obtain ⟨t215, A350, H⟩ := H
        replace H : (if t215 = true then ((tallystickref14_ordered.f l0_6).bind fun t216 => (if t216 = true then ((tallystickref14_ordered.f l0_7).bind fun t217 => (some false)) else (some false))) else (some false)) = some r := H
        have A35 := Aside0.mk A350
        clear A350
        by_cases c36 : t215 = true
        · subst c36
          have H1 : ((tallystickref14_ordered.f l0_6).bind fun t216 => (if t216 = true then ((tallystickref14_ordered.f l0_7).bind fun t217 => (some false)) else (some false))) = some r := by rw [if_pos rfl] at H; exact H
          clear H
          have H := H1
          clear H1
          replace H := Option.bind_eq_some_iff.mp H
          obtain ⟨t216, A370, H⟩ := H
          replace H : (if t216 = true then ((tallystickref14_ordered.f l0_7).bind fun t217 => (some false)) else (some false)) = some r := H
          have A37 := Aside0.mk A370
          clear A370
          by_cases c38 : t216 = true
          · subst c38
            have H1 : ((tallystickref14_ordered.f l0_7).bind fun t217 => (some false)) = some r := by rw [if_pos rfl] at H; exact H
            clear H
            have H := H1
            clear H1
            replace H := Option.bind_eq_some_iff.mp H
            obtain ⟨t217, A390, H⟩ := H
            replace H : (some false) = some r := H
            have A39 := Aside0.mk A390
            clear A390
            obtain rfl := Option.some.inj H
            go_enter Tryd.func43, Tryd.ntmps43
            go_wp2_with (first | ((with_reducible refine gate_dst (N := 1) rfl ?_); refine box_event ?hg (N := 1) ?hd (cs := #[.int .i64 a0_0, .int .i64 a0_1, .int .i64 a0_2, .int .i64 a0_3, .int .i64 a0_4, .slice A0_5 l0_5.length c0_5, .slice A0_6 l0_6.length c0_6, .slice A0_7 l0_7.length c0_7, .bool a0_8]) (t := 63) ?hr ?_; (case hd => rfl); (case hg => rfl); (case hr => first | (go_simp; done) | (go_simp; rfl)); intro gb207 hg w40 hbox hb; have n0_ := Aside0.mk (below_step (by repeat (first | (with_reducible first | exact HB.out | apply below_alloc | apply pw_below_drewN | apply below_drew1) | exact HB.out)) hb); have n1_ := Aside0.mk (hbox); have n2_ := Aside0.mk ((by rw [hg]; exact (below_size (by repeat (first | (with_reducible first | exact HB.out | apply below_alloc | apply pw_below_drewN | apply below_drew1) | exact HB.out))) : w.heap.size ≤ gb207)); have n3_ := Aside0.mk ((by rw [hg]; exact (below_size (by repeat (first | (with_reducible first | exact HB.out | apply below_alloc | apply pw_below_drewN | apply below_drew1) | exact HB.out))) : w.heap.size ≤ gb207)); clear HB; have HB := n0_; have BK207 := n1_; have GW207 := n2_; have GE207 := n3_; clear n0_ n1_ n2_ n3_; clear hb hbox hg; have hcz41_0 : w40.cell? ⟨gb207, 0, none⟩ = some (.int .i64 a0_0) := (blk_cell BK207.out 0).trans rfl; have hcz41_1 : w40.cell? ⟨gb207, 1, none⟩ = some (.int .i64 a0_1) := (blk_cell BK207.out 1).trans rfl; have hcz41_2 : w40.cell? ⟨gb207, 2, none⟩ = some (.int .i64 a0_2) := (blk_cell BK207.out 2).trans rfl; have hcz41_3 : w40.cell? ⟨gb207, 3, none⟩ = some (.int .i64 a0_3) := (blk_cell BK207.out 3).trans rfl; have hcz41_4 : w40.cell? ⟨gb207, 4, none⟩ = some (.int .i64 a0_4) := (blk_cell BK207.out 4).trans rfl; have hcz41_5 : w40.cell? ⟨gb207, 5, none⟩ = some (.slice A0_5 l0_5.length c0_5) := (blk_cell BK207.out 5).trans rfl; have hcz41_6 : w40.cell? ⟨gb207, 6, none⟩ = some (.slice A0_6 l0_6.length c0_6) := (blk_cell BK207.out 6).trans rfl; have hcz41_7 : w40.cell? ⟨gb207, 7, none⟩ = some (.slice A0_7 l0_7.length c0_7) := (blk_cell BK207.out 7).trans rfl; have hcz41_8 : w40.cell? ⟨gb207, 8, none⟩ = some (.bool a0_8) := (blk_cell BK207.out 8).trans rfl; have hfz41_0 := blk_frozen BK207.out 0; have hfz41_1 := blk_frozen BK207.out 1; have hfz41_2 := blk_frozen BK207.out 2; have hfz41_3 := blk_frozen BK207.out 3; have hfz41_4 := blk_frozen BK207.out 4; have hfz41_5 := blk_frozen BK207.out 5; have hfz41_6 := blk_frozen BK207.out 6; have hfz41_7 := blk_frozen BK207.out 7; have hfz41_8 := blk_frozen BK207.out 8) | ((with_reducible refine gate_callee (f := 61) rfl ?_); refine goesL_ (some 8) rfl rfl Tryd.func61 (by kernel_rfl) rfl #[.int .i64 a0_1] rfl (by (try simp only [List.map_toArray, List.map_cons, List.map_nil]); first | done | rfl | (simp only [List.length_drop, List.length_take]; rfl)) ?_; (with_reducible refine (tallystickref14_small.calls a0_1 true _ A2.out).mono ?_); rintro e w' ⟨rfl, ⟨nd, rfl⟩⟩; refine ⟨_, rfl, ?_⟩) | (go_at_call 61; (with_reducible refine (tallystickref14_small.calls a0_2 true _ A4.out).mono ?_); rintro e w' ⟨rfl, ⟨nd, rfl⟩⟩) | (go_at_call 61; (with_reducible refine (tallystickref14_small.calls a0_3 false _ A6.out).mono ?_); rintro e w' ⟨rfl, ⟨nd, rfl⟩⟩) | ((with_reducible refine gate_callee (f := 60) rfl ?_); refine goesL_ (some 32) rfl rfl Tryd.func60 (by kernel_rfl) rfl #[.slice A0_5 l0_5.length c0_5] rfl (by (try simp only [List.map_toArray, List.map_cons, List.map_nil]); first | done | rfl | (simp only [List.length_drop, List.length_take]; rfl)) ?_; (with_reducible refine (tallystickref14_ordered.calls _ _ l0_5 true _ ?side1 ?side2 A35.out).mono ?_); (case side1 => repeat (first | exact (Kd.C_below HR0_5.out (by repeat (first | (with_reducible first | exact HB.out | apply below_alloc | apply pw_below_drewN | apply below_drew1 | refine below_set ?_ GE207.out) | exact HB.out))) | (with_reducible refine Kd.C_alloc ?_ _) | (with_reducible refine Kd.C_drewN ?_ _) | (with_reducible refine Kd.C_drew ?_))); (case side2 => exact HC0_5.out); rintro e w' ⟨rfl, ⟨nd, rfl⟩⟩; refine ⟨_, rfl, ?_⟩) | (go_at_call 60; (with_reducible refine (tallystickref14_ordered.calls _ _ l0_6 true _ ?side1 ?side2 A37.out).mono ?_); (case side1 => repeat (first | exact (Kd.C_below HR0_6.out (by repeat (first | (with_reducible first | exact HB.out | apply below_alloc | apply pw_below_drewN | apply below_drew1 | refine below_set ?_ GE207.out) | exact HB.out))) | (with_reducible refine Kd.C_alloc ?_ _) | (with_reducible refine Kd.C_drewN ?_ _) | (with_reducible refine Kd.C_drew ?_))); (case side2 => exact HC0_6.out); rintro e w' ⟨rfl, ⟨nd, rfl⟩⟩) | (go_at_call 60; (with_reducible refine (tallystickref14_ordered.calls _ _ l0_7 t217 _ ?side1 ?side2 A39.out).mono ?_); (case side1 => repeat (first | exact (Kd.C_below HR0_7.out (by repeat (first | (with_reducible first | exact HB.out | apply below_alloc | apply pw_below_drewN | apply below_drew1 | refine below_set ?_ GE207.out) | exact HB.out))) | (with_reducible refine Kd.C_alloc ?_ _) | (with_reducible refine Kd.C_drewN ?_ _) | (with_reducible refine Kd.C_drew ?_))); (case side2 => exact HC0_7.out); rintro e w' ⟨rfl, ⟨nd, rfl⟩⟩))
            go_ret
            exact ⟨by first | rfl | (simp [errW_none, errW_some] <;> rfl) | (simp [*, errW_none, errW_some] <;> rfl), by repeat (first | (with_reducible first | exact HB.out | apply below_alloc | apply pw_below_drewN | apply below_drew1 | refine below_set ?_ GE207.out) | exact HB.out)⟩
          · replace c38 := Bool.eq_false_iff.mpr c38
            subst c38
            have H1 : (some false) = some r := by rw [if_neg (show ¬ (false = true) by decide)] at H; exact H
            clear H
            have H := H1
            clear H1
            obtain rfl := Option.some.inj H
            go_enter Tryd.func43, Tryd.ntmps43
            go_wp2_with (first | ((with_reducible refine gate_dst (N := 1) rfl ?_); refine box_event ?hg (N := 1) ?hd (cs := #[.int .i64 a0_0, .int .i64 a0_1, .int .i64 a0_2, .int .i64 a0_3, .int .i64 a0_4, .slice A0_5 l0_5.length c0_5, .slice A0_6 l0_6.length c0_6, .slice A0_7 l0_7.length c0_7, .bool a0_8]) (t := 63) ?hr ?_; (case hd => rfl); (case hg => rfl); (case hr => first | (go_simp; done) | (go_simp; rfl)); intro gb207 hg w42 hbox hb; have n0_ := Aside0.mk (below_step (by repeat (first | (with_reducible first | exact HB.out | apply below_alloc | apply pw_below_drewN | apply below_drew1) | exact HB.out)) hb); have n1_ := Aside0.mk (hbox); have n2_ := Aside0.mk ((by rw [hg]; exact (below_size (by repeat (first | (with_reducible first | exact HB.out | apply below_alloc | apply pw_below_drewN | apply below_drew1) | exact HB.out))) : w.heap.size ≤ gb207)); have n3_ := Aside0.mk ((by rw [hg]; exact (below_size (by repeat (first | (with_reducible first | exact HB.out | apply below_alloc | apply pw_below_drewN | apply below_drew1) | exact HB.out))) : w.heap.size ≤ gb207)); clear HB; have HB := n0_; have BK207 := n1_; have GW207 := n2_; have GE207 := n3_; clear n0_ n1_ n2_ n3_; clear hb hbox hg; have hcz43_0 : w42.cell? ⟨gb207, 0, none⟩ = some (.int .i64 a0_0) := (blk_cell BK207.out 0).trans rfl; have hcz43_1 : w42.cell? ⟨gb207, 1, none⟩ = some (.int .i64 a0_1) := (blk_cell BK207.out 1).trans rfl; have hcz43_2 : w42.cell? ⟨gb207, 2, none⟩ = some (.int .i64 a0_2) := (blk_cell BK207.out 2).trans rfl; have hcz43_3 : w42.cell? ⟨gb207, 3, none⟩ = some (.int .i64 a0_3) := (blk_cell BK207.out 3).trans rfl; have hcz43_4 : w42.cell? ⟨gb207, 4, none⟩ = some (.int .i64 a0_4) := (blk_cell BK207.out 4).trans rfl; have hcz43_5 : w42.cell? ⟨gb207, 5, none⟩ = some (.slice A0_5 l0_5.length c0_5) := (blk_cell BK207.out 5).trans rfl; have hcz43_6 : w42.cell? ⟨gb207, 6, none⟩ = some (.slice A0_6 l0_6.length c0_6) := (blk_cell BK207.out 6).trans rfl; have hcz43_7 : w42.cell? ⟨gb207, 7, none⟩ = some (.slice A0_7 l0_7.length c0_7) := (blk_cell BK207.out 7).trans rfl; have hcz43_8 : w42.cell? ⟨gb207, 8, none⟩ = some (.bool a0_8) := (blk_cell BK207.out 8).trans rfl; have hfz43_0 := blk_frozen BK207.out 0; have hfz43_1 := blk_frozen BK207.out 1; have hfz43_2 := blk_frozen BK207.out 2; have hfz43_3 := blk_frozen BK207.out 3; have hfz43_4 := blk_frozen BK207.out 4; have hfz43_5 := blk_frozen BK207.out 5; have hfz43_6 := blk_frozen BK207.out 6; have hfz43_7 := blk_frozen BK207.out 7; have hfz43_8 := blk_frozen BK207.out 8) | ((with_reducible refine gate_callee (f := 61) rfl ?_); refine goesL_ (some 8) rfl rfl Tryd.func61 (by kernel_rfl) rfl #[.int .i64 a0_1] rfl (by (try simp only [List.map_toArray, List.map_cons, List.map_nil]); first | done | rfl | (simp only [List.length_drop, List.length_take]; rfl)) ?_; (with_reducible refine (tallystickref14_small.calls a0_1 true _ A2.out).mono ?_); rintro e w' ⟨rfl, ⟨nd, rfl⟩⟩; refine ⟨_, rfl, ?_⟩) | (go_at_call 61; (with_reducible refine (tallystickref14_small.calls a0_2 true _ A4.out).mono ?_); rintro e w' ⟨rfl, ⟨nd, rfl⟩⟩) | (go_at_call 61; (with_reducible refine (tallystickref14_small.calls a0_3 false _ A6.out).mono ?_); rintro e w' ⟨rfl, ⟨nd, rfl⟩⟩) | ((with_reducible refine gate_callee (f := 60) rfl ?_); refine goesL_ (some 32) rfl rfl Tryd.func60 (by kernel_rfl) rfl #[.slice A0_5 l0_5.length c0_5] rfl (by (try simp only [List.map_toArray, List.map_cons, List.map_nil]); first | done | rfl | (simp only [List.length_drop, List.length_take]; rfl)) ?_; (with_reducible refine (tallystickref14_ordered.calls _ _ l0_5 true _ ?side1 ?side2 A35.out).mono ?_); (case side1 => repeat (first | exact (Kd.C_below HR0_5.out (by repeat (first | (with_reducible first | exact HB.out | apply below_alloc | apply pw_below_drewN | apply below_drew1 | refine below_set ?_ GE207.out) | exact HB.out))) | (with_reducible refine Kd.C_alloc ?_ _) | (with_reducible refine Kd.C_drewN ?_ _) | (with_reducible refine Kd.C_drew ?_))); (case side2 => exact HC0_5.out); rintro e w' ⟨rfl, ⟨nd, rfl⟩⟩; refine ⟨_, rfl, ?_⟩) | (go_at_call 60; (with_reducible refine (tallystickref14_ordered.calls _ _ l0_6 false _ ?side1 ?side2 A37.out).mono ?_); (case side1 => repeat (first | exact (Kd.C_below HR0_6.out (by repeat (first | (with_reducible first | exact HB.out | apply below_alloc | apply pw_below_drewN | apply below_drew1 | refine below_set ?_ GE207.out) | exact HB.out))) | (with_reducible refine Kd.C_alloc ?_ _) | (with_reducible refine Kd.C_drewN ?_ _) | (with_reducible refine Kd.C_drew ?_))); (case side2 => exact HC0_6.out); rintro e w' ⟨rfl, ⟨nd, rfl⟩⟩))
            go_ret
            exact ⟨by first | rfl | (simp [errW_none, errW_some] <;> rfl) | (simp [*, errW_none, errW_some] <;> rfl), by repeat (first | (with_reducible first | exact HB.out | apply below_alloc | apply pw_below_drewN | apply below_drew1 | refine below_set ?_ GE207.out) | exact HB.out)⟩
        · replace c36 := Bool.eq_false_iff.mpr c36
          subst c36
          have H1 : (some false) = some r := by rw [if_neg (show ¬ (false = true) by decide)] at H; exact H
          clear H
          have H := H1
          clear H1
          obtain rfl := Option.some.inj H
          go_enter Tryd.func43, Tryd.ntmps43
          go_wp2_with (first | ((with_reducible refine gate_dst (N := 1) rfl ?_); refine box_event ?hg (N := 1) ?hd (cs := #[.int .i64 a0_0, .int .i64 a0_1, .int .i64 a0_2, .int .i64 a0_3, .int .i64 a0_4, .slice A0_5 l0_5.length c0_5, .slice A0_6 l0_6.length c0_6, .slice A0_7 l0_7.length c0_7, .bool a0_8]) (t := 63) ?hr ?_; (case hd => rfl); (case hg => rfl); (case hr => first | (go_simp; done) | (go_simp; rfl)); intro gb207 hg w44 hbox hb; have n0_ := Aside0.mk (below_step (by repeat (first | (with_reducible first | exact HB.out | apply below_alloc | apply pw_below_drewN | apply below_drew1) | exact HB.out)) hb); have n1_ := Aside0.mk (hbox); have n2_ := Aside0.mk ((by rw [hg]; exact (below_size (by repeat (first | (with_reducible first | exact HB.out | apply below_alloc | apply pw_below_drewN | apply below_drew1) | exact HB.out))) : w.heap.size ≤ gb207)); have n3_ := Aside0.mk ((by rw [hg]; exact (below_size (by repeat (first | (with_reducible first | exact HB.out | apply below_alloc | apply pw_below_drewN | apply below_drew1) | exact HB.out))) : w.heap.size ≤ gb207)); clear HB; have HB := n0_; have BK207 := n1_; have GW207 := n2_; have GE207 := n3_; clear n0_ n1_ n2_ n3_; clear hb hbox hg; have hcz45_0 : w44.cell? ⟨gb207, 0, none⟩ = some (.int .i64 a0_0) := (blk_cell BK207.out 0).trans rfl; have hcz45_1 : w44.cell? ⟨gb207, 1, none⟩ = some (.int .i64 a0_1) := (blk_cell BK207.out 1).trans rfl; have hcz45_2 : w44.cell? ⟨gb207, 2, none⟩ = some (.int .i64 a0_2) := (blk_cell BK207.out 2).trans rfl; have hcz45_3 : w44.cell? ⟨gb207, 3, none⟩ = some (.int .i64 a0_3) := (blk_cell BK207.out 3).trans rfl; have hcz45_4 : w44.cell? ⟨gb207, 4, none⟩ = some (.int .i64 a0_4) := (blk_cell BK207.out 4).trans rfl; have hcz45_5 : w44.cell? ⟨gb207, 5, none⟩ = some (.slice A0_5 l0_5.length c0_5) := (blk_cell BK207.out 5).trans rfl; have hcz45_6 : w44.cell? ⟨gb207, 6, none⟩ = some (.slice A0_6 l0_6.length c0_6) := (blk_cell BK207.out 6).trans rfl; have hcz45_7 : w44.cell? ⟨gb207, 7, none⟩ = some (.slice A0_7 l0_7.length c0_7) := (blk_cell BK207.out 7).trans rfl; have hcz45_8 : w44.cell? ⟨gb207, 8, none⟩ = some (.bool a0_8) := (blk_cell BK207.out 8).trans rfl; have hfz45_0 := blk_frozen BK207.out 0; have hfz45_1 := blk_frozen BK207.out 1; have hfz45_2 := blk_frozen BK207.out 2; have hfz45_3 := blk_frozen BK207.out 3; have hfz45_4 := blk_frozen BK207.out 4; have hfz45_5 := blk_frozen BK207.out 5; have hfz45_6 := blk_frozen BK207.out 6; have hfz45_7 := blk_frozen BK207.out 7; have hfz45_8 := blk_frozen BK207.out 8) | ((with_reducible refine gate_callee (f := 61) rfl ?_); refine goesL_ (some 8) rfl rfl Tryd.func61 (by kernel_rfl) rfl #[.int .i64 a0_1] rfl (by (try simp only [List.map_toArray, List.map_cons, List.map_nil]); first | done | rfl | (simp only [List.length_drop, List.length_take]; rfl)) ?_; (with_reducible refine (tallystickref14_small.calls a0_1 true _ A2.out).mono ?_); rintro e w' ⟨rfl, ⟨nd, rfl⟩⟩; refine ⟨_, rfl, ?_⟩) | (go_at_call 61; (with_reducible refine (tallystickref14_small.calls a0_2 true _ A4.out).mono ?_); rintro e w' ⟨rfl, ⟨nd, rfl⟩⟩) | (go_at_call 61; (with_reducible refine (tallystickref14_small.calls a0_3 false _ A6.out).mono ?_); rintro e w' ⟨rfl, ⟨nd, rfl⟩⟩) | ((with_reducible refine gate_callee (f := 60) rfl ?_); refine goesL_ (some 32) rfl rfl Tryd.func60 (by kernel_rfl) rfl #[.slice A0_5 l0_5.length c0_5] rfl (by (try simp only [List.map_toArray, List.map_cons, List.map_nil]); first | done | rfl | (simp only [List.length_drop, List.length_take]; rfl)) ?_; (with_reducible refine (tallystickref14_ordered.calls _ _ l0_5 false _ ?side1 ?side2 A35.out).mono ?_); (case side1 => repeat (first | exact (Kd.C_below HR0_5.out (by repeat (first | (with_reducible first | exact HB.out | apply below_alloc | apply pw_below_drewN | apply below_drew1 | refine below_set ?_ GE207.out) | exact HB.out))) | (with_reducible refine Kd.C_alloc ?_ _) | (with_reducible refine Kd.C_drewN ?_ _) | (with_reducible refine Kd.C_drew ?_))); (case side2 => exact HC0_5.out); rintro e w' ⟨rfl, ⟨nd, rfl⟩⟩; refine ⟨_, rfl, ?_⟩))
          go_ret
          exact ⟨by first | rfl | (simp [errW_none, errW_some] <;> rfl) | (simp [*, errW_none, errW_some] <;> rfl), by repeat (first | (with_reducible first | exact HB.out | apply below_alloc | apply pw_below_drewN | apply below_drew1 | refine below_set ?_ GE207.out) | exact HB.out)⟩
    · replace c5 := Bool.eq_false_iff.mpr c5
      subst c5
      have H1 : ((tallystickref14_ordered.f l0_5).bind fun t218 => (if t218 = true then ((tallystickref14_ordered.f l0_6).bind fun t219 => (if t219 = true then ((tallystickref14_ordered.f l0_7).bind fun t220 => (some false)) else (some false))) else (some false))) = some r := by rw [if_neg (show ¬ (false = true) by decide)] at H; exact H
      clear H
      have H := H1
      clear H1
      replace H := Option.bind_eq_some_iff.mp H
      obtain ⟨t218, A460, H⟩ := H
      replace H : (if t218 = true then ((tallystickref14_ordered.f l0_6).bind fun t219 => (if t219 = true then ((tallystickref14_ordered.f l0_7).bind fun t220 => (some false)) else (some false))) else (some false)) = some r := H
      have A46 := Aside0.mk A460
      clear A460
      by_cases c47 : t218 = true
      · subst c47
        have H1 : ((tallystickref14_ordered.f l0_6).bind fun t219 => (if t219 = true then ((tallystickref14_ordered.f l0_7).bind fun t220 => (some false)) else (some false))) = some r := by rw [if_pos rfl] at H; exact H
        clear H
        have H := H1
        clear H1
        replace H := Option.bind_eq_some_iff.mp H
        obtain ⟨t219, A480, H⟩ := H
        replace H : (if t219 = true then ((tallystickref14_ordered.f l0_7).bind fun t220 => (some false)) else (some false)) = some r := H
        have A48 := Aside0.mk A480
        clear A480
        by_cases c49 : t219 = true
        · subst c49
          have H1 : ((tallystickref14_ordered.f l0_7).bind fun t220 => (some false)) = some r := by rw [if_pos rfl] at H; exact H
          clear H
          have H := H1
          clear H1
          replace H := Option.bind_eq_some_iff.mp H
          obtain ⟨t220, A500, H⟩ := H
          replace H : (some false) = some r := H
          have A50 := Aside0.mk A500
          clear A500
          obtain rfl := Option.some.inj H
          go_enter Tryd.func43, Tryd.ntmps43
          go_wp2_with (first | ((with_reducible refine gate_dst (N := 1) rfl ?_); refine box_event ?hg (N := 1) ?hd (cs := #[.int .i64 a0_0, .int .i64 a0_1, .int .i64 a0_2, .int .i64 a0_3, .int .i64 a0_4, .slice A0_5 l0_5.length c0_5, .slice A0_6 l0_6.length c0_6, .slice A0_7 l0_7.length c0_7, .bool a0_8]) (t := 63) ?hr ?_; (case hd => rfl); (case hg => rfl); (case hr => first | (go_simp; done) | (go_simp; rfl)); intro gb207 hg w51 hbox hb; have n0_ := Aside0.mk (below_step (by repeat (first | (with_reducible first | exact HB.out | apply below_alloc | apply pw_below_drewN | apply below_drew1) | exact HB.out)) hb); have n1_ := Aside0.mk (hbox); have n2_ := Aside0.mk ((by rw [hg]; exact (below_size (by repeat (first | (with_reducible first | exact HB.out | apply below_alloc | apply pw_below_drewN | apply below_drew1) | exact HB.out))) : w.heap.size ≤ gb207)); have n3_ := Aside0.mk ((by rw [hg]; exact (below_size (by repeat (first | (with_reducible first | exact HB.out | apply below_alloc | apply pw_below_drewN | apply below_drew1) | exact HB.out))) : w.heap.size ≤ gb207)); clear HB; have HB := n0_; have BK207 := n1_; have GW207 := n2_; have GE207 := n3_; clear n0_ n1_ n2_ n3_; clear hb hbox hg; have hcz52_0 : w51.cell? ⟨gb207, 0, none⟩ = some (.int .i64 a0_0) := (blk_cell BK207.out 0).trans rfl; have hcz52_1 : w51.cell? ⟨gb207, 1, none⟩ = some (.int .i64 a0_1) := (blk_cell BK207.out 1).trans rfl; have hcz52_2 : w51.cell? ⟨gb207, 2, none⟩ = some (.int .i64 a0_2) := (blk_cell BK207.out 2).trans rfl; have hcz52_3 : w51.cell? ⟨gb207, 3, none⟩ = some (.int .i64 a0_3) := (blk_cell BK207.out 3).trans rfl; have hcz52_4 : w51.cell? ⟨gb207, 4, none⟩ = some (.int .i64 a0_4) := (blk_cell BK207.out 4).trans rfl; have hcz52_5 : w51.cell? ⟨gb207, 5, none⟩ = some (.slice A0_5 l0_5.length c0_5) := (blk_cell BK207.out 5).trans rfl; have hcz52_6 : w51.cell? ⟨gb207, 6, none⟩ = some (.slice A0_6 l0_6.length c0_6) := (blk_cell BK207.out 6).trans rfl; have hcz52_7 : w51.cell? ⟨gb207, 7, none⟩ = some (.slice A0_7 l0_7.length c0_7) := (blk_cell BK207.out 7).trans rfl; have hcz52_8 : w51.cell? ⟨gb207, 8, none⟩ = some (.bool a0_8) := (blk_cell BK207.out 8).trans rfl; have hfz52_0 := blk_frozen BK207.out 0; have hfz52_1 := blk_frozen BK207.out 1; have hfz52_2 := blk_frozen BK207.out 2; have hfz52_3 := blk_frozen BK207.out 3; have hfz52_4 := blk_frozen BK207.out 4; have hfz52_5 := blk_frozen BK207.out 5; have hfz52_6 := blk_frozen BK207.out 6; have hfz52_7 := blk_frozen BK207.out 7; have hfz52_8 := blk_frozen BK207.out 8) | ((with_reducible refine gate_callee (f := 61) rfl ?_); refine goesL_ (some 8) rfl rfl Tryd.func61 (by kernel_rfl) rfl #[.int .i64 a0_1] rfl (by (try simp only [List.map_toArray, List.map_cons, List.map_nil]); first | done | rfl | (simp only [List.length_drop, List.length_take]; rfl)) ?_; (with_reducible refine (tallystickref14_small.calls a0_1 true _ A2.out).mono ?_); rintro e w' ⟨rfl, ⟨nd, rfl⟩⟩; refine ⟨_, rfl, ?_⟩) | (go_at_call 61; (with_reducible refine (tallystickref14_small.calls a0_2 false _ A4.out).mono ?_); rintro e w' ⟨rfl, ⟨nd, rfl⟩⟩) | ((with_reducible refine gate_callee (f := 60) rfl ?_); refine goesL_ (some 32) rfl rfl Tryd.func60 (by kernel_rfl) rfl #[.slice A0_5 l0_5.length c0_5] rfl (by (try simp only [List.map_toArray, List.map_cons, List.map_nil]); first | done | rfl | (simp only [List.length_drop, List.length_take]; rfl)) ?_; (with_reducible refine (tallystickref14_ordered.calls _ _ l0_5 true _ ?side1 ?side2 A46.out).mono ?_); (case side1 => repeat (first | exact (Kd.C_below HR0_5.out (by repeat (first | (with_reducible first | exact HB.out | apply below_alloc | apply pw_below_drewN | apply below_drew1 | refine below_set ?_ GE207.out) | exact HB.out))) | (with_reducible refine Kd.C_alloc ?_ _) | (with_reducible refine Kd.C_drewN ?_ _) | (with_reducible refine Kd.C_drew ?_))); (case side2 => exact HC0_5.out); rintro e w' ⟨rfl, ⟨nd, rfl⟩⟩; refine ⟨_, rfl, ?_⟩) | (go_at_call 60; (with_reducible refine (tallystickref14_ordered.calls _ _ l0_6 true _ ?side1 ?side2 A48.out).mono ?_); (case side1 => repeat (first | exact (Kd.C_below HR0_6.out (by repeat (first | (with_reducible first | exact HB.out | apply below_alloc | apply pw_below_drewN | apply below_drew1 | refine below_set ?_ GE207.out) | exact HB.out))) | (with_reducible refine Kd.C_alloc ?_ _) | (with_reducible refine Kd.C_drewN ?_ _) | (with_reducible refine Kd.C_drew ?_))); (case side2 => exact HC0_6.out); rintro e w' ⟨rfl, ⟨nd, rfl⟩⟩) | (go_at_call 60; (with_reducible refine (tallystickref14_ordered.calls _ _ l0_7 t220 _ ?side1 ?side2 A50.out).mono ?_); (case side1 => repeat (first | exact (Kd.C_below HR0_7.out (by repeat (first | (with_reducible first | exact HB.out | apply below_alloc | apply pw_below_drewN | apply below_drew1 | refine below_set ?_ GE207.out) | exact HB.out))) | (with_reducible refine Kd.C_alloc ?_ _) | (with_reducible refine Kd.C_drewN ?_ _) | (with_reducible refine Kd.C_drew ?_))); (case side2 => exact HC0_7.out); rintro e w' ⟨rfl, ⟨nd, rfl⟩⟩))
          go_ret
          exact ⟨by first | rfl | (simp [errW_none, errW_some] <;> rfl) | (simp [*, errW_none, errW_some] <;> rfl), by repeat (first | (with_reducible first | exact HB.out | apply below_alloc | apply pw_below_drewN | apply below_drew1 | refine below_set ?_ GE207.out) | exact HB.out)⟩
        · replace c49 := Bool.eq_false_iff.mpr c49
          subst c49
          have H1 : (some false) = some r := by rw [if_neg (show ¬ (false = true) by decide)] at H; exact H
          clear H
          have H := H1
          clear H1
          obtain rfl := Option.some.inj H
          go_enter Tryd.func43, Tryd.ntmps43
          go_wp2_with (first | ((with_reducible refine gate_dst (N := 1) rfl ?_); refine box_event ?hg (N := 1) ?hd (cs := #[.int .i64 a0_0, .int .i64 a0_1, .int .i64 a0_2, .int .i64 a0_3, .int .i64 a0_4, .slice A0_5 l0_5.length c0_5, .slice A0_6 l0_6.length c0_6, .slice A0_7 l0_7.length c0_7, .bool a0_8]) (t := 63) ?hr ?_; (case hd => rfl); (case hg => rfl); (case hr => first | (go_simp; done) | (go_simp; rfl)); intro gb207 hg w53 hbox hb; have n0_ := Aside0.mk (below_step (by repeat (first | (with_reducible first | exact HB.out | apply below_alloc | apply pw_below_drewN | apply below_drew1) | exact HB.out)) hb); have n1_ := Aside0.mk (hbox); have n2_ := Aside0.mk ((by rw [hg]; exact (below_size (by repeat (first | (with_reducible first | exact HB.out | apply below_alloc | apply pw_below_drewN | apply below_drew1) | exact HB.out))) : w.heap.size ≤ gb207)); have n3_ := Aside0.mk ((by rw [hg]; exact (below_size (by repeat (first | (with_reducible first | exact HB.out | apply below_alloc | apply pw_below_drewN | apply below_drew1) | exact HB.out))) : w.heap.size ≤ gb207)); clear HB; have HB := n0_; have BK207 := n1_; have GW207 := n2_; have GE207 := n3_; clear n0_ n1_ n2_ n3_; clear hb hbox hg; have hcz54_0 : w53.cell? ⟨gb207, 0, none⟩ = some (.int .i64 a0_0) := (blk_cell BK207.out 0).trans rfl; have hcz54_1 : w53.cell? ⟨gb207, 1, none⟩ = some (.int .i64 a0_1) := (blk_cell BK207.out 1).trans rfl; have hcz54_2 : w53.cell? ⟨gb207, 2, none⟩ = some (.int .i64 a0_2) := (blk_cell BK207.out 2).trans rfl; have hcz54_3 : w53.cell? ⟨gb207, 3, none⟩ = some (.int .i64 a0_3) := (blk_cell BK207.out 3).trans rfl; have hcz54_4 : w53.cell? ⟨gb207, 4, none⟩ = some (.int .i64 a0_4) := (blk_cell BK207.out 4).trans rfl; have hcz54_5 : w53.cell? ⟨gb207, 5, none⟩ = some (.slice A0_5 l0_5.length c0_5) := (blk_cell BK207.out 5).trans rfl; have hcz54_6 : w53.cell? ⟨gb207, 6, none⟩ = some (.slice A0_6 l0_6.length c0_6) := (blk_cell BK207.out 6).trans rfl; have hcz54_7 : w53.cell? ⟨gb207, 7, none⟩ = some (.slice A0_7 l0_7.length c0_7) := (blk_cell BK207.out 7).trans rfl; have hcz54_8 : w53.cell? ⟨gb207, 8, none⟩ = some (.bool a0_8) := (blk_cell BK207.out 8).trans rfl; have hfz54_0 := blk_frozen BK207.out 0; have hfz54_1 := blk_frozen BK207.out 1; have hfz54_2 := blk_frozen BK207.out 2; have hfz54_3 := blk_frozen BK207.out 3; have hfz54_4 := blk_frozen BK207.out 4; have hfz54_5 := blk_frozen BK207.out 5; have hfz54_6 := blk_frozen BK207.out 6; have hfz54_7 := blk_frozen BK207.out 7; have hfz54_8 := blk_frozen BK207.out 8) | ((with_reducible refine gate_callee (f := 61) rfl ?_); refine goesL_ (some 8) rfl rfl Tryd.func61 (by kernel_rfl) rfl #[.int .i64 a0_1] rfl (by (try simp only [List.map_toArray, List.map_cons, List.map_nil]); first | done | rfl | (simp only [List.length_drop, List.length_take]; rfl)) ?_; (with_reducible refine (tallystickref14_small.calls a0_1 true _ A2.out).mono ?_); rintro e w' ⟨rfl, ⟨nd, rfl⟩⟩; refine ⟨_, rfl, ?_⟩) | (go_at_call 61; (with_reducible refine (tallystickref14_small.calls a0_2 false _ A4.out).mono ?_); rintro e w' ⟨rfl, ⟨nd, rfl⟩⟩) | ((with_reducible refine gate_callee (f := 60) rfl ?_); refine goesL_ (some 32) rfl rfl Tryd.func60 (by kernel_rfl) rfl #[.slice A0_5 l0_5.length c0_5] rfl (by (try simp only [List.map_toArray, List.map_cons, List.map_nil]); first | done | rfl | (simp only [List.length_drop, List.length_take]; rfl)) ?_; (with_reducible refine (tallystickref14_ordered.calls _ _ l0_5 true _ ?side1 ?side2 A46.out).mono ?_); (case side1 => repeat (first | exact (Kd.C_below HR0_5.out (by repeat (first | (with_reducible first | exact HB.out | apply below_alloc | apply pw_below_drewN | apply below_drew1 | refine below_set ?_ GE207.out) | exact HB.out))) | (with_reducible refine Kd.C_alloc ?_ _) | (with_reducible refine Kd.C_drewN ?_ _) | (with_reducible refine Kd.C_drew ?_))); (case side2 => exact HC0_5.out); rintro e w' ⟨rfl, ⟨nd, rfl⟩⟩; refine ⟨_, rfl, ?_⟩) | (go_at_call 60; (with_reducible refine (tallystickref14_ordered.calls _ _ l0_6 false _ ?side1 ?side2 A48.out).mono ?_); (case side1 => repeat (first | exact (Kd.C_below HR0_6.out (by repeat (first | (with_reducible first | exact HB.out | apply below_alloc | apply pw_below_drewN | apply below_drew1 | refine below_set ?_ GE207.out) | exact HB.out))) | (with_reducible refine Kd.C_alloc ?_ _) | (with_reducible refine Kd.C_drewN ?_ _) | (with_reducible refine Kd.C_drew ?_))); (case side2 => exact HC0_6.out); rintro e w' ⟨rfl, ⟨nd, rfl⟩⟩))
          go_ret
          exact ⟨by first | rfl | (simp [errW_none, errW_some] <;> rfl) | (simp [*, errW_none, errW_some] <;> rfl), by repeat (first | (with_reducible first | exact HB.out | apply below_alloc | apply pw_below_drewN | apply below_drew1 | refine below_set ?_ GE207.out) | exact HB.out)⟩
      · replace c47 := Bool.eq_false_iff.mpr c47
        subst c47
        have H1 : (some false) = some r := by rw [if_neg (show ¬ (false = true) by decide)] at H; exact H
        clear H
        have H := H1
        clear H1
        obtain rfl := Option.some.inj H
        go_enter Tryd.func43, Tryd.ntmps43
        go_wp2_with (first | ((with_reducible refine gate_dst (N := 1) rfl ?_); refine box_event ?hg (N := 1) ?hd (cs := #[.int .i64 a0_0, .int .i64 a0_1, .int .i64 a0_2, .int .i64 a0_3, .int .i64 a0_4, .slice A0_5 l0_5.length c0_5, .slice A0_6 l0_6.length c0_6, .slice A0_7 l0_7.length c0_7, .bool a0_8]) (t := 63) ?hr ?_; (case hd => rfl); (case hg => rfl); (case hr => first | (go_simp; done) | (go_simp; rfl)); intro gb207 hg w55 hbox hb; have n0_ := Aside0.mk (below_step (by repeat (first | (with_reducible first | exact HB.out | apply below_alloc | apply pw_below_drewN | apply below_drew1) | exact HB.out)) hb); have n1_ := Aside0.mk (hbox); have n2_ := Aside0.mk ((by rw [hg]; exact (below_size (by repeat (first | (with_reducible first | exact HB.out | apply below_alloc | apply pw_below_drewN | apply below_drew1) | exact HB.out))) : w.heap.size ≤ gb207)); have n3_ := Aside0.mk ((by rw [hg]; exact (below_size (by repeat (first | (with_reducible first | exact HB.out | apply below_alloc | apply pw_below_drewN | apply below_drew1) | exact HB.out))) : w.heap.size ≤ gb207)); clear HB; have HB := n0_; have BK207 := n1_; have GW207 := n2_; have GE207 := n3_; clear n0_ n1_ n2_ n3_; clear hb hbox hg; have hcz56_0 : w55.cell? ⟨gb207, 0, none⟩ = some (.int .i64 a0_0) := (blk_cell BK207.out 0).trans rfl; have hcz56_1 : w55.cell? ⟨gb207, 1, none⟩ = some (.int .i64 a0_1) := (blk_cell BK207.out 1).trans rfl; have hcz56_2 : w55.cell? ⟨gb207, 2, none⟩ = some (.int .i64 a0_2) := (blk_cell BK207.out 2).trans rfl; have hcz56_3 : w55.cell? ⟨gb207, 3, none⟩ = some (.int .i64 a0_3) := (blk_cell BK207.out 3).trans rfl; have hcz56_4 : w55.cell? ⟨gb207, 4, none⟩ = some (.int .i64 a0_4) := (blk_cell BK207.out 4).trans rfl; have hcz56_5 : w55.cell? ⟨gb207, 5, none⟩ = some (.slice A0_5 l0_5.length c0_5) := (blk_cell BK207.out 5).trans rfl; have hcz56_6 : w55.cell? ⟨gb207, 6, none⟩ = some (.slice A0_6 l0_6.length c0_6) := (blk_cell BK207.out 6).trans rfl; have hcz56_7 : w55.cell? ⟨gb207, 7, none⟩ = some (.slice A0_7 l0_7.length c0_7) := (blk_cell BK207.out 7).trans rfl; have hcz56_8 : w55.cell? ⟨gb207, 8, none⟩ = some (.bool a0_8) := (blk_cell BK207.out 8).trans rfl; have hfz56_0 := blk_frozen BK207.out 0; have hfz56_1 := blk_frozen BK207.out 1; have hfz56_2 := blk_frozen BK207.out 2; have hfz56_3 := blk_frozen BK207.out 3; have hfz56_4 := blk_frozen BK207.out 4; have hfz56_5 := blk_frozen BK207.out 5; have hfz56_6 := blk_frozen BK207.out 6; have hfz56_7 := blk_frozen BK207.out 7; have hfz56_8 := blk_frozen BK207.out 8) | ((with_reducible refine gate_callee (f := 61) rfl ?_); refine goesL_ (some 8) rfl rfl Tryd.func61 (by kernel_rfl) rfl #[.int .i64 a0_1] rfl (by (try simp only [List.map_toArray, List.map_cons, List.map_nil]); first | done | rfl | (simp only [List.length_drop, List.length_take]; rfl)) ?_; (with_reducible refine (tallystickref14_small.calls a0_1 true _ A2.out).mono ?_); rintro e w' ⟨rfl, ⟨nd, rfl⟩⟩; refine ⟨_, rfl, ?_⟩) | (go_at_call 61; (with_reducible refine (tallystickref14_small.calls a0_2 false _ A4.out).mono ?_); rintro e w' ⟨rfl, ⟨nd, rfl⟩⟩) | ((with_reducible refine gate_callee (f := 60) rfl ?_); refine goesL_ (some 32) rfl rfl Tryd.func60 (by kernel_rfl) rfl #[.slice A0_5 l0_5.length c0_5] rfl (by (try simp only [List.map_toArray, List.map_cons, List.map_nil]); first | done | rfl | (simp only [List.length_drop, List.length_take]; rfl)) ?_; (with_reducible refine (tallystickref14_ordered.calls _ _ l0_5 false _ ?side1 ?side2 A46.out).mono ?_); (case side1 => repeat (first | exact (Kd.C_below HR0_5.out (by repeat (first | (with_reducible first | exact HB.out | apply below_alloc | apply pw_below_drewN | apply below_drew1 | refine below_set ?_ GE207.out) | exact HB.out))) | (with_reducible refine Kd.C_alloc ?_ _) | (with_reducible refine Kd.C_drewN ?_ _) | (with_reducible refine Kd.C_drew ?_))); (case side2 => exact HC0_5.out); rintro e w' ⟨rfl, ⟨nd, rfl⟩⟩; refine ⟨_, rfl, ?_⟩))
        go_ret
        exact ⟨by first | rfl | (simp [errW_none, errW_some] <;> rfl) | (simp [*, errW_none, errW_some] <;> rfl), by repeat (first | (with_reducible first | exact HB.out | apply below_alloc | apply pw_below_drewN | apply below_drew1 | refine below_set ?_ GE207.out) | exact HB.out)⟩
  · replace c3 := Bool.eq_false_iff.mpr c3
    subst c3
    have H1 : ((tallystickref14_ordered.f l0_5).bind fun t221 => (if t221 = true then ((tallystickref14_ordered.f l0_6).bind fun t222 => (if t222 = true then ((tallystickref14_ordered.f l0_7).bind fun t223 => (some false)) else (some false))) else (some false))) = some r := by rw [if_neg (show ¬ (false = true) by decide)] at H; exact H
    clear H
    have H := H1
    clear H1
    replace H := Option.bind_eq_some_iff.mp H
    obtain ⟨t221, A570, H⟩ := H
    replace H : (if t221 = true then ((tallystickref14_ordered.f l0_6).bind fun t222 => (if t222 = true then ((tallystickref14_ordered.f l0_7).bind fun t223 => (some false)) else (some false))) else (some false)) = some r := H
    have A57 := Aside0.mk A570
    clear A570
    by_cases c58 : t221 = true
    · subst c58
      have H1 : ((tallystickref14_ordered.f l0_6).bind fun t222 => (if t222 = true then ((tallystickref14_ordered.f l0_7).bind fun t223 => (some false)) else (some false))) = some r := by rw [if_pos rfl] at H; exact H
      clear H
      have H := H1
      clear H1
      replace H := Option.bind_eq_some_iff.mp H
      obtain ⟨t222, A590, H⟩ := H
      replace H : (if t222 = true then ((tallystickref14_ordered.f l0_7).bind fun t223 => (some false)) else (some false)) = some r := H
      have A59 := Aside0.mk A590
      clear A590
      by_cases c60 : t222 = true
      · subst c60
        have H1 : ((tallystickref14_ordered.f l0_7).bind fun t223 => (some false)) = some r := by rw [if_pos rfl] at H; exact H
        clear H
        have H := H1
        clear H1
        replace H := Option.bind_eq_some_iff.mp H
        obtain ⟨t223, A610, H⟩ := H
        replace H : (some false) = some r := H
        have A61 := Aside0.mk A610
        clear A610
        obtain rfl := Option.some.inj H
        go_enter Tryd.func43, Tryd.ntmps43
        go_wp2_with (first | ((with_reducible refine gate_dst (N := 1) rfl ?_); refine box_event ?hg (N := 1) ?hd (cs := #[.int .i64 a0_0, .int .i64 a0_1, .int .i64 a0_2, .int .i64 a0_3, .int .i64 a0_4, .slice A0_5 l0_5.length c0_5, .slice A0_6 l0_6.length c0_6, .slice A0_7 l0_7.length c0_7, .bool a0_8]) (t := 63) ?hr ?_; (case hd => rfl); (case hg => rfl); (case hr => first | (go_simp; done) | (go_simp; rfl)); intro gb207 hg w62 hbox hb; have n0_ := Aside0.mk (below_step (by repeat (first | (with_reducible first | exact HB.out | apply below_alloc | apply pw_below_drewN | apply below_drew1) | exact HB.out)) hb); have n1_ := Aside0.mk (hbox); have n2_ := Aside0.mk ((by rw [hg]; exact (below_size (by repeat (first | (with_reducible first | exact HB.out | apply below_alloc | apply pw_below_drewN | apply below_drew1) | exact HB.out))) : w.heap.size ≤ gb207)); have n3_ := Aside0.mk ((by rw [hg]; exact (below_size (by repeat (first | (with_reducible first | exact HB.out | apply below_alloc | apply pw_below_drewN | apply below_drew1) | exact HB.out))) : w.heap.size ≤ gb207)); clear HB; have HB := n0_; have BK207 := n1_; have GW207 := n2_; have GE207 := n3_; clear n0_ n1_ n2_ n3_; clear hb hbox hg; have hcz63_0 : w62.cell? ⟨gb207, 0, none⟩ = some (.int .i64 a0_0) := (blk_cell BK207.out 0).trans rfl; have hcz63_1 : w62.cell? ⟨gb207, 1, none⟩ = some (.int .i64 a0_1) := (blk_cell BK207.out 1).trans rfl; have hcz63_2 : w62.cell? ⟨gb207, 2, none⟩ = some (.int .i64 a0_2) := (blk_cell BK207.out 2).trans rfl; have hcz63_3 : w62.cell? ⟨gb207, 3, none⟩ = some (.int .i64 a0_3) := (blk_cell BK207.out 3).trans rfl; have hcz63_4 : w62.cell? ⟨gb207, 4, none⟩ = some (.int .i64 a0_4) := (blk_cell BK207.out 4).trans rfl; have hcz63_5 : w62.cell? ⟨gb207, 5, none⟩ = some (.slice A0_5 l0_5.length c0_5) := (blk_cell BK207.out 5).trans rfl; have hcz63_6 : w62.cell? ⟨gb207, 6, none⟩ = some (.slice A0_6 l0_6.length c0_6) := (blk_cell BK207.out 6).trans rfl; have hcz63_7 : w62.cell? ⟨gb207, 7, none⟩ = some (.slice A0_7 l0_7.length c0_7) := (blk_cell BK207.out 7).trans rfl; have hcz63_8 : w62.cell? ⟨gb207, 8, none⟩ = some (.bool a0_8) := (blk_cell BK207.out 8).trans rfl; have hfz63_0 := blk_frozen BK207.out 0; have hfz63_1 := blk_frozen BK207.out 1; have hfz63_2 := blk_frozen BK207.out 2; have hfz63_3 := blk_frozen BK207.out 3; have hfz63_4 := blk_frozen BK207.out 4; have hfz63_5 := blk_frozen BK207.out 5; have hfz63_6 := blk_frozen BK207.out 6; have hfz63_7 := blk_frozen BK207.out 7; have hfz63_8 := blk_frozen BK207.out 8) | ((with_reducible refine gate_callee (f := 61) rfl ?_); refine goesL_ (some 8) rfl rfl Tryd.func61 (by kernel_rfl) rfl #[.int .i64 a0_1] rfl (by (try simp only [List.map_toArray, List.map_cons, List.map_nil]); first | done | rfl | (simp only [List.length_drop, List.length_take]; rfl)) ?_; (with_reducible refine (tallystickref14_small.calls a0_1 false _ A2.out).mono ?_); rintro e w' ⟨rfl, ⟨nd, rfl⟩⟩; refine ⟨_, rfl, ?_⟩) | ((with_reducible refine gate_callee (f := 60) rfl ?_); refine goesL_ (some 32) rfl rfl Tryd.func60 (by kernel_rfl) rfl #[.slice A0_5 l0_5.length c0_5] rfl (by (try simp only [List.map_toArray, List.map_cons, List.map_nil]); first | done | rfl | (simp only [List.length_drop, List.length_take]; rfl)) ?_; (with_reducible refine (tallystickref14_ordered.calls _ _ l0_5 true _ ?side1 ?side2 A57.out).mono ?_); (case side1 => repeat (first | exact (Kd.C_below HR0_5.out (by repeat (first | (with_reducible first | exact HB.out | apply below_alloc | apply pw_below_drewN | apply below_drew1 | refine below_set ?_ GE207.out) | exact HB.out))) | (with_reducible refine Kd.C_alloc ?_ _) | (with_reducible refine Kd.C_drewN ?_ _) | (with_reducible refine Kd.C_drew ?_))); (case side2 => exact HC0_5.out); rintro e w' ⟨rfl, ⟨nd, rfl⟩⟩; refine ⟨_, rfl, ?_⟩) | (go_at_call 60; (with_reducible refine (tallystickref14_ordered.calls _ _ l0_6 true _ ?side1 ?side2 A59.out).mono ?_); (case side1 => repeat (first | exact (Kd.C_below HR0_6.out (by repeat (first | (with_reducible first | exact HB.out | apply below_alloc | apply pw_below_drewN | apply below_drew1 | refine below_set ?_ GE207.out) | exact HB.out))) | (with_reducible refine Kd.C_alloc ?_ _) | (with_reducible refine Kd.C_drewN ?_ _) | (with_reducible refine Kd.C_drew ?_))); (case side2 => exact HC0_6.out); rintro e w' ⟨rfl, ⟨nd, rfl⟩⟩) | (go_at_call 60; (with_reducible refine (tallystickref14_ordered.calls _ _ l0_7 t223 _ ?side1 ?side2 A61.out).mono ?_); (case side1 => repeat (first | exact (Kd.C_below HR0_7.out (by repeat (first | (with_reducible first | exact HB.out | apply below_alloc | apply pw_below_drewN | apply below_drew1 | refine below_set ?_ GE207.out) | exact HB.out))) | (with_reducible refine Kd.C_alloc ?_ _) | (with_reducible refine Kd.C_drewN ?_ _) | (with_reducible refine Kd.C_drew ?_))); (case side2 => exact HC0_7.out); rintro e w' ⟨rfl, ⟨nd, rfl⟩⟩))
        go_ret
        exact ⟨by first | rfl | (simp [errW_none, errW_some] <;> rfl) | (simp [*, errW_none, errW_some] <;> rfl), by repeat (first | (with_reducible first | exact HB.out | apply below_alloc | apply pw_below_drewN | apply below_drew1 | refine below_set ?_ GE207.out) | exact HB.out)⟩
      · replace c60 := Bool.eq_false_iff.mpr c60
        subst c60
        have H1 : (some false) = some r := by rw [if_neg (show ¬ (false = true) by decide)] at H; exact H
        clear H
        have H := H1
        clear H1
        obtain rfl := Option.some.inj H
        go_enter Tryd.func43, Tryd.ntmps43
        go_wp2_with (first | ((with_reducible refine gate_dst (N := 1) rfl ?_); refine box_event ?hg (N := 1) ?hd (cs := #[.int .i64 a0_0, .int .i64 a0_1, .int .i64 a0_2, .int .i64 a0_3, .int .i64 a0_4, .slice A0_5 l0_5.length c0_5, .slice A0_6 l0_6.length c0_6, .slice A0_7 l0_7.length c0_7, .bool a0_8]) (t := 63) ?hr ?_; (case hd => rfl); (case hg => rfl); (case hr => first | (go_simp; done) | (go_simp; rfl)); intro gb207 hg w64 hbox hb; have n0_ := Aside0.mk (below_step (by repeat (first | (with_reducible first | exact HB.out | apply below_alloc | apply pw_below_drewN | apply below_drew1) | exact HB.out)) hb); have n1_ := Aside0.mk (hbox); have n2_ := Aside0.mk ((by rw [hg]; exact (below_size (by repeat (first | (with_reducible first | exact HB.out | apply below_alloc | apply pw_below_drewN | apply below_drew1) | exact HB.out))) : w.heap.size ≤ gb207)); have n3_ := Aside0.mk ((by rw [hg]; exact (below_size (by repeat (first | (with_reducible first | exact HB.out | apply below_alloc | apply pw_below_drewN | apply below_drew1) | exact HB.out))) : w.heap.size ≤ gb207)); clear HB; have HB := n0_; have BK207 := n1_; have GW207 := n2_; have GE207 := n3_; clear n0_ n1_ n2_ n3_; clear hb hbox hg; have hcz65_0 : w64.cell? ⟨gb207, 0, none⟩ = some (.int .i64 a0_0) := (blk_cell BK207.out 0).trans rfl; have hcz65_1 : w64.cell? ⟨gb207, 1, none⟩ = some (.int .i64 a0_1) := (blk_cell BK207.out 1).trans rfl; have hcz65_2 : w64.cell? ⟨gb207, 2, none⟩ = some (.int .i64 a0_2) := (blk_cell BK207.out 2).trans rfl; have hcz65_3 : w64.cell? ⟨gb207, 3, none⟩ = some (.int .i64 a0_3) := (blk_cell BK207.out 3).trans rfl; have hcz65_4 : w64.cell? ⟨gb207, 4, none⟩ = some (.int .i64 a0_4) := (blk_cell BK207.out 4).trans rfl; have hcz65_5 : w64.cell? ⟨gb207, 5, none⟩ = some (.slice A0_5 l0_5.length c0_5) := (blk_cell BK207.out 5).trans rfl; have hcz65_6 : w64.cell? ⟨gb207, 6, none⟩ = some (.slice A0_6 l0_6.length c0_6) := (blk_cell BK207.out 6).trans rfl; have hcz65_7 : w64.cell? ⟨gb207, 7, none⟩ = some (.slice A0_7 l0_7.length c0_7) := (blk_cell BK207.out 7).trans rfl; have hcz65_8 : w64.cell? ⟨gb207, 8, none⟩ = some (.bool a0_8) := (blk_cell BK207.out 8).trans rfl; have hfz65_0 := blk_frozen BK207.out 0; have hfz65_1 := blk_frozen BK207.out 1; have hfz65_2 := blk_frozen BK207.out 2; have hfz65_3 := blk_frozen BK207.out 3; have hfz65_4 := blk_frozen BK207.out 4; have hfz65_5 := blk_frozen BK207.out 5; have hfz65_6 := blk_frozen BK207.out 6; have hfz65_7 := blk_frozen BK207.out 7; have hfz65_8 := blk_frozen BK207.out 8) | ((with_reducible refine gate_callee (f := 61) rfl ?_); refine goesL_ (some 8) rfl rfl Tryd.func61 (by kernel_rfl) rfl #[.int .i64 a0_1] rfl (by (try simp only [List.map_toArray, List.map_cons, List.map_nil]); first | done | rfl | (simp only [List.length_drop, List.length_take]; rfl)) ?_; (with_reducible refine (tallystickref14_small.calls a0_1 false _ A2.out).mono ?_); rintro e w' ⟨rfl, ⟨nd, rfl⟩⟩; refine ⟨_, rfl, ?_⟩) | ((with_reducible refine gate_callee (f := 60) rfl ?_); refine goesL_ (some 32) rfl rfl Tryd.func60 (by kernel_rfl) rfl #[.slice A0_5 l0_5.length c0_5] rfl (by (try simp only [List.map_toArray, List.map_cons, List.map_nil]); first | done | rfl | (simp only [List.length_drop, List.length_take]; rfl)) ?_; (with_reducible refine (tallystickref14_ordered.calls _ _ l0_5 true _ ?side1 ?side2 A57.out).mono ?_); (case side1 => repeat (first | exact (Kd.C_below HR0_5.out (by repeat (first | (with_reducible first | exact HB.out | apply below_alloc | apply pw_below_drewN | apply below_drew1 | refine below_set ?_ GE207.out) | exact HB.out))) | (with_reducible refine Kd.C_alloc ?_ _) | (with_reducible refine Kd.C_drewN ?_ _) | (with_reducible refine Kd.C_drew ?_))); (case side2 => exact HC0_5.out); rintro e w' ⟨rfl, ⟨nd, rfl⟩⟩; refine ⟨_, rfl, ?_⟩) | (go_at_call 60; (with_reducible refine (tallystickref14_ordered.calls _ _ l0_6 false _ ?side1 ?side2 A59.out).mono ?_); (case side1 => repeat (first | exact (Kd.C_below HR0_6.out (by repeat (first | (with_reducible first | exact HB.out | apply below_alloc | apply pw_below_drewN | apply below_drew1 | refine below_set ?_ GE207.out) | exact HB.out))) | (with_reducible refine Kd.C_alloc ?_ _) | (with_reducible refine Kd.C_drewN ?_ _) | (with_reducible refine Kd.C_drew ?_))); (case side2 => exact HC0_6.out); rintro e w' ⟨rfl, ⟨nd, rfl⟩⟩))
        go_ret
        exact ⟨by first | rfl | (simp [errW_none, errW_some] <;> rfl) | (simp [*, errW_none, errW_some] <;> rfl), by repeat (first | (with_reducible first | exact HB.out | apply below_alloc | apply pw_below_drewN | apply below_drew1 | refine below_set ?_ GE207.out) | exact HB.out)⟩
    · replace c58 := Bool.eq_false_iff.mpr c58
      subst c58
      have H1 : (some false) = some r := by rw [if_neg (show ¬ (false = true) by decide)] at H; exact H
      clear H
      have H := H1
      clear H1
      obtain rfl := Option.some.inj H
      go_enter Tryd.func43, Tryd.ntmps43
      go_wp2_with (first | ((with_reducible refine gate_dst (N := 1) rfl ?_); refine box_event ?hg (N := 1) ?hd (cs := #[.int .i64 a0_0, .int .i64 a0_1, .int .i64 a0_2, .int .i64 a0_3, .int .i64 a0_4, .slice A0_5 l0_5.length c0_5, .slice A0_6 l0_6.length c0_6, .slice A0_7 l0_7.length c0_7, .bool a0_8]) (t := 63) ?hr ?_; (case hd => rfl); (case hg => rfl); (case hr => first | (go_simp; done) | (go_simp; rfl)); intro gb207 hg w66 hbox hb; have n0_ := Aside0.mk (below_step (by repeat (first | (with_reducible first | exact HB.out | apply below_alloc | apply pw_below_drewN | apply below_drew1) | exact HB.out)) hb); have n1_ := Aside0.mk (hbox); have n2_ := Aside0.mk ((by rw [hg]; exact (below_size (by repeat (first | (with_reducible first | exact HB.out | apply below_alloc | apply pw_below_drewN | apply below_drew1) | exact HB.out))) : w.heap.size ≤ gb207)); have n3_ := Aside0.mk ((by rw [hg]; exact (below_size (by repeat (first | (with_reducible first | exact HB.out | apply below_alloc | apply pw_below_drewN | apply below_drew1) | exact HB.out))) : w.heap.size ≤ gb207)); clear HB; have HB := n0_; have BK207 := n1_; have GW207 := n2_; have GE207 := n3_; clear n0_ n1_ n2_ n3_; clear hb hbox hg; have hcz67_0 : w66.cell? ⟨gb207, 0, none⟩ = some (.int .i64 a0_0) := (blk_cell BK207.out 0).trans rfl; have hcz67_1 : w66.cell? ⟨gb207, 1, none⟩ = some (.int .i64 a0_1) := (blk_cell BK207.out 1).trans rfl; have hcz67_2 : w66.cell? ⟨gb207, 2, none⟩ = some (.int .i64 a0_2) := (blk_cell BK207.out 2).trans rfl; have hcz67_3 : w66.cell? ⟨gb207, 3, none⟩ = some (.int .i64 a0_3) := (blk_cell BK207.out 3).trans rfl; have hcz67_4 : w66.cell? ⟨gb207, 4, none⟩ = some (.int .i64 a0_4) := (blk_cell BK207.out 4).trans rfl; have hcz67_5 : w66.cell? ⟨gb207, 5, none⟩ = some (.slice A0_5 l0_5.length c0_5) := (blk_cell BK207.out 5).trans rfl; have hcz67_6 : w66.cell? ⟨gb207, 6, none⟩ = some (.slice A0_6 l0_6.length c0_6) := (blk_cell BK207.out 6).trans rfl; have hcz67_7 : w66.cell? ⟨gb207, 7, none⟩ = some (.slice A0_7 l0_7.length c0_7) := (blk_cell BK207.out 7).trans rfl; have hcz67_8 : w66.cell? ⟨gb207, 8, none⟩ = some (.bool a0_8) := (blk_cell BK207.out 8).trans rfl; have hfz67_0 := blk_frozen BK207.out 0; have hfz67_1 := blk_frozen BK207.out 1; have hfz67_2 := blk_frozen BK207.out 2; have hfz67_3 := blk_frozen BK207.out 3; have hfz67_4 := blk_frozen BK207.out 4; have hfz67_5 := blk_frozen BK207.out 5; have hfz67_6 := blk_frozen BK207.out 6; have hfz67_7 := blk_frozen BK207.out 7; have hfz67_8 := blk_frozen BK207.out 8) | ((with_reducible refine gate_callee (f := 61) rfl ?_); refine goesL_ (some 8) rfl rfl Tryd.func61 (by kernel_rfl) rfl #[.int .i64 a0_1] rfl (by (try simp only [List.map_toArray, List.map_cons, List.map_nil]); first | done | rfl | (simp only [List.length_drop, List.length_take]; rfl)) ?_; (with_reducible refine (tallystickref14_small.calls a0_1 false _ A2.out).mono ?_); rintro e w' ⟨rfl, ⟨nd, rfl⟩⟩; refine ⟨_, rfl, ?_⟩) | ((with_reducible refine gate_callee (f := 60) rfl ?_); refine goesL_ (some 32) rfl rfl Tryd.func60 (by kernel_rfl) rfl #[.slice A0_5 l0_5.length c0_5] rfl (by (try simp only [List.map_toArray, List.map_cons, List.map_nil]); first | done | rfl | (simp only [List.length_drop, List.length_take]; rfl)) ?_; (with_reducible refine (tallystickref14_ordered.calls _ _ l0_5 false _ ?side1 ?side2 A57.out).mono ?_); (case side1 => repeat (first | exact (Kd.C_below HR0_5.out (by repeat (first | (with_reducible first | exact HB.out | apply below_alloc | apply pw_below_drewN | apply below_drew1 | refine below_set ?_ GE207.out) | exact HB.out))) | (with_reducible refine Kd.C_alloc ?_ _) | (with_reducible refine Kd.C_drewN ?_ _) | (with_reducible refine Kd.C_drew ?_))); (case side2 => exact HC0_5.out); rintro e w' ⟨rfl, ⟨nd, rfl⟩⟩; refine ⟨_, rfl, ?_⟩))
      go_ret
      exact ⟨by first | rfl | (simp [errW_none, errW_some] <;> rfl) | (simp [*, errW_none, errW_some] <;> rfl), by repeat (first | (with_reducible first | exact HB.out | apply below_alloc | apply pw_below_drewN | apply below_drew1 | refine below_set ?_ GE207.out) | exact HB.out)⟩

end Go.Proofs.YtbpobnlkfpjijaaDoorR.Pr
end
-- Rt
section
namespace Go.Proofs.YtbpobnlkfpjijaaDoorR.Pr
open Go.RowKit Go.Proofs.YtbpobnlkfpjijaaDoorRW.PrintWords Go.Proofs.YtbpobnlkfpjijaaDoorRW.PrintLast Go.Proofs.YtbpobnlkfpjijaaDoorRW.PrintMore
set_option linter.unusedVariables false
set_option linter.unusedSimpArgs false
/-- takeRow's loop: the words that are left to take. -/
def rowRL : Nat → ByteArray → List Int → List Int × ByteArray × Int
  | 0, s, xs => if ordB xs = true then (xs, s, 0) else ([], ⟨#[]⟩, 6)
  | d + 1, s, xs => if s.size < 8 then ([], ⟨#[]⟩, 5) else rowRL d (s.extract 8 s.size) (xs ++ [numF (s.extract 0 8)])
def rowR (s : ByteArray) : List Int × ByteArray × Int :=
  if s.size < 4 then ([], ⟨#[]⟩, 5) else if numF (s.extract 0 4) > 4096 then ([], ⟨#[]⟩, 4) else rowRL (numF (s.extract 0 4)).toNat (s.extract 4 s.size) []
theorem ordered_ref (l : List Int) (hl : l.length < 9223372036854775807) : tallystickref14_ordered.f l = some (ordB l) := by
  unfold tallystickref14_ordered.f ordB
  by_cases h : l.length ≤ 4096
  · rw [if_pos (by omega), decide_eq_true h, Bool.true_and]
    rcases Nat.eq_zero_or_pos l.length with h0 | h0
    · have : l = [] := List.length_eq_zero_iff.1 h0
      subst this
      rfl
    · have hw : wrap64 ((l.length : Int) - 1) = ((l.length - 1 : Nat) : Int) := by unfold wrap64; omega
      rw [if_neg (by omega), hw, if_pos (by omega), if_pos (by omega), rd_nat l (l.length - 1) (by omega)]
      congr 1
      cases hb : lastZero l with
      | true => simp [(lastZero_iff l h0).1 hb]
      | false =>
        have : l[l.length - 1]'(by omega) ≠ 0 := fun h => by rw [(lastZero_iff l h0).2 h] at hb; cases hb
        simpa using this
  · rw [if_neg (by omega), decide_eq_false h]
    rfl
theorem takeRow_l (n : Nat) (hn : n ≤ 4096) : ∀ (d i k : Nat) (s : ByteArray) (xs : List Int), i + d = n → d + 10 ≤ k → s.size < 9223372036854775807 → xs.length = i →
    tallystickref14_takeRow.l0 k s (n : Int) xs (i : Int) = some (rowRL d s xs)
  | 0, i, 0, s, xs, _, hk, _, _ => by omega
  | 0, i, k + 1, s, xs, hi, hk, hs, hx => by
    unfold tallystickref14_takeRow.l0 rowRL
    rw [if_neg (by omega), ordered_ref xs (by omega), Option.bind_some]
    cases ordB xs <;> rfl
  | d + 1, i, 0, s, xs, _, hk, _, _ => by omega
  | d + 1, i, k + 1, s, xs, hi, hk, hs, hx => by
    have ih := takeRow_l n hn d (i + 1) k (s.extract 8 s.size) (xs ++ [numF (s.extract 0 8)]) (by omega) (by omega) (by simp; omega) (by simp; omega)
    unfold tallystickref14_takeRow.l0 rowRL
    rw [if_pos (by omega)]
    by_cases h8 : s.size < 8
    · rw [if_pos (by omega), if_pos h8]
    · rw [if_neg (by omega), if_neg h8, if_pos (by omega), if_pos (by omega), number_ref (s.extract 0 8) (by simp; omega) k (by simp; omega), Option.bind_some, if_pos (by omega)]
      have hw : IntKind.u64.wrap ((i : Int) + 1) = ((i + 1 : Nat) : Int) := by rw [w64]; omega
      rw [hw]
      exact ih
theorem takeRow_ref (s : ByteArray) (hs : s.size < 9223372036854775807) (k : Nat) (hk : 5000 ≤ k) : tallystickref14_takeRow.f k s = some (rowR s) := by
  unfold tallystickref14_takeRow.f rowR
  by_cases h4 : s.size < 4
  · rw [if_pos (by omega), if_pos h4]
  · rw [if_neg (by omega), if_neg h4, if_pos (by omega), if_pos (by omega), number_ref (s.extract 0 4) (by simp; omega) k (by simp; omega), Option.bind_some]
    by_cases hn : numF (s.extract 0 4) > 4096
    · rw [if_pos hn, if_pos hn]
    · rw [if_neg hn, if_neg hn]
      have hN := numF_range (s.extract 0 4)
      obtain ⟨n, hn2⟩ := Int.eq_ofNat_of_zero_le hN.1
      rw [hn2, Int.toNat_natCast]
      exact takeRow_l n (by omega) n 0 k _ [] (by omega) (by omega) (by simp; omega) rfl
theorem rowRL_size : ∀ (d : Nat) (s : ByteArray) (xs : List Int), (rowRL d s xs).2.1.size ≤ s.size
  | 0, s, xs => by
    unfold rowRL
    cases ordB xs
    · exact Nat.zero_le _
    · exact Nat.le_refl _
  | d + 1, s, xs => by
    unfold rowRL
    by_cases h : s.size < 8
    · rw [if_pos h]; exact Nat.zero_le _
    · rw [if_neg h]; exact Nat.le_trans (rowRL_size d _ _) (extract_size s 8)
theorem rowR_size (s : ByteArray) : (rowR s).2.1.size ≤ s.size := by
  unfold rowR
  by_cases h4 : s.size < 4
  · rw [if_pos h4]; exact Nat.zero_le _
  · rw [if_neg h4]
    by_cases hn : numF (s.extract 0 4) > 4096
    · rw [if_pos hn]; exact Nat.zero_le _
    · rw [if_neg hn]; exact Nat.le_trans (rowRL_size _ _ _) (extract_size s 4)
theorem rowRL_len : ∀ (d : Nat) (s : ByteArray) (xs : List Int), (rowRL d s xs).1.length ≤ xs.length + d
  | 0, s, xs => by
    unfold rowRL
    cases ordB xs
    · exact Nat.zero_le _
    · exact Nat.le_refl _
  | d + 1, s, xs => by
    unfold rowRL
    by_cases h : s.size < 8
    · rw [if_pos h]; exact Nat.zero_le _
    · rw [if_neg h]
      have := rowRL_len d (s.extract 8 s.size) (xs ++ [numF (s.extract 0 8)])
      simp at this ⊢
      omega
theorem rowR_len (s : ByteArray) : (rowR s).1.length ≤ 4097 := by
  unfold rowR
  by_cases h4 : s.size < 4
  · rw [if_pos h4]; exact Nat.zero_le _
  · rw [if_neg h4]
    by_cases hn : numF (s.extract 0 4) > 4096
    · rw [if_pos hn]; exact Nat.zero_le _
    · rw [if_neg hn]
      have := rowRL_len (numF (s.extract 0 4)).toNat (s.extract 4 s.size) []
      simp at this
      omega
theorem small_ref (a : Int) : tallystickref14_small.f a = some (!oddB a) := by
  unfold tallystickref14_small.f oddB
  by_cases h : a ≥ 0
  · rw [if_pos h]
    have h1 : decide (a < 0) = false := by simp; omega
    rw [h1, Bool.false_or]
    congr 1
    by_cases h2 : a ≤ 2147483647
    · rw [decide_eq_true h2, decide_eq_false (by omega)]; rfl
    · rw [decide_eq_false h2, decide_eq_true (by omega)]; rfl
  · rw [if_neg h]
    have h1 : decide (a < 0) = true := by simp; omega
    rw [h1]
    rfl
theorem may_ref (c d g f u : Int) (P Q R : List Int) (m : Bool) (hP : P.length < 9223372036854775807) (hQ : Q.length < 9223372036854775807) (hR : R.length < 9223372036854775807) :
    tallystickref14_May.f c d g f u P Q R m = some (mayF c d g f u P Q R) := by
  unfold tallystickref14_May.f mayF
  simp only [small_ref, ordered_ref P hP, ordered_ref Q hQ, ordered_ref R hR, Option.bind_some]
  generalize oddB d = b1
  generalize oddB g = b2
  generalize oddB f = b3
  generalize oddB u = b4
  generalize ordB P = b5
  generalize ordB Q = b6
  generalize ordB R = b7
  by_cases h : c ≥ 0
  · have h0 : decide (0 ≤ c) = true := decide_eq_true h
    rw [h0, if_pos h]
    generalize decide (c ≤ 255) = b8
    revert b1 b2 b3 b4 b5 b6 b7 b8
    decide
  · have h0 : decide (0 ≤ c) = false := decide_eq_false h
    rw [h0, if_neg h]
    generalize decide (c ≤ 255) = b8
    revert b1 b2 b3 b4 b5 b6 b7 b8
    decide
theorem rowR_calls (s : ByteArray) (hs : s.size < 9223372036854775807) (w : World) : Calls Tryd.prog 42 #[.string s] w fun e w' => ∃ A c, e = .returned (.tuple #[.slice A (rowR s).1.length c, .string (rowR s).2.1, .int .i64 (rowR s).2.2]) ∧
    Kd.V (Kd.int .u64) 79 w' 0 (fun k => w.heap.size ≤ k) (.slice A (rowR s).1.length c) (rowR s).1 ∧ Below w.heap.size w w' := by
  refine (tallystickref14_takeRow.calls 5000 s (rowR s).1 (rowR s).2.1 (rowR s).2.2 w (takeRow_ref s hs 5000 (Nat.le_refl _))).mono ?_
  rintro e w' ⟨v0, rfl, hR, hb⟩
  obtain ⟨A, c, rfl, hc, _⟩ := Kd.R_reads hR
  exact ⟨A, c, rfl, ⟨A, c, rfl, hc, Kd.F_mono (Kd.R_F (Kd.R_bound hR)) (fun k hk => hk.2.1)⟩, hb⟩
/-- What follows the rows. -/
def refEnd (c d g f u : Int) (m : Bool) (P Q R : List Int) (left : ByteArray) : RecT × Int :=
  if 0 < left.size then (zeroRec, 6) else if mayF c d g f u P Q R = true then ((c, d, g, f, u, P, Q, R, m), 0) else (zeroRec, 1)
def refRows (c d g f u : Int) (m : Bool) (s : ByteArray) : RecT × Int :=
  if (rowR s).2.2 ≠ 0 then (zeroRec, (rowR s).2.2)
  else if (rowR (rowR s).2.1).2.2 ≠ 0 then (zeroRec, (rowR (rowR s).2.1).2.2)
  else if (rowR (rowR (rowR s).2.1).2.1).2.2 ≠ 0 then (zeroRec, (rowR (rowR (rowR s).2.1).2.1).2.2)
  else refEnd c d g f u m (rowR s).1 (rowR (rowR s).2.1).1 (rowR (rowR (rowR s).2.1).2.1).1 (rowR (rowR (rowR s).2.1).2.1).2.1
def refBody (b : ByteArray) : RecT × Int :=
  if b.size < 18 then (zeroRec, 5)
  else if bt b 17 > 1 then (zeroRec, 6)
  else refRows (wrap64 (bt b 0)) (wrap64 (numF (b.extract 1 5))) (wrap64 (numF (b.extract 5 9))) (wrap64 (numF (b.extract 9 13))) (wrap64 (numF (b.extract 13 17))) (bt b 17 == 1) (b.extract 18 b.size)
def takeRef (s : ByteArray) : RecT × Int :=
  if s.size < 8 then (zeroRec, 5)
  else if numF (s.extract (s.size - 4) s.size) ≠ sumF (s.extract 0 (s.size - 4)) then (zeroRec, 7)
  else if (s.extract 0 4).toList ≠ [84, 65, 76, 89] then (zeroRec, 6)
  else refBody (s.extract 4 (s.size - 4))
def tallystickref14_Take.T11 : Bool × List (List Nat × List Nat) := (true, [([], []), ([0], [0]), ([1], [1]), ([], []), ([3], [3]), ([4], [4]), ([5], [5]), ([], []), ([7], [7]), ([8, 5], [8]), ([9], [9]), ([2, 6, 10], [2, 6, 10]), ([11], [11]), ([], []), ([13, 12, 9, 0, 1, 2, 3, 4, 5, 6, 7, 8, 9, 10, 11, 12, 13], [12, 13])])
def tallystickref14_Take.B11 : List Nat := [0, 1, 3, 0, 8, 24, 56, 0, 128, 440, 952, 2047, 4095, 0, 16383]
theorem tallystickref14_Take.tab11 : rtab .any (opsOf Tryd.f26 11) = tallystickref14_Take.T11 := by kernel_rfl
theorem tallystickref14_Take.bits11 : waitsOk tallystickref14_Take.T11.2 tallystickref14_Take.B11 = true := by kernel_rfl
def tallystickref14_Take.T12 : Bool × List (List Nat × List Nat) := (true, [([], []), ([0], [0]), ([1], [1]), ([2], [2]), ([], []), ([4], [4]), ([5, 2], [5]), ([6], [6]), ([3, 7], [3, 7]), ([0, 1, 2, 3, 4, 5, 6, 7, 8], []), ([9, 0, 1, 2, 3, 4, 5, 6, 7, 8], [9]), ([10, 8, 6, 0, 1, 2, 3, 4, 5, 6, 7, 8], [8, 10])])
def tallystickref14_Take.B12 : List Nat := [0, 1, 3, 7, 0, 16, 55, 119, 255, 511, 1023, 2047]
theorem tallystickref14_Take.tab12 : rtab .any (opsOf Tryd.f26 12) = tallystickref14_Take.T12 := by kernel_rfl
theorem tallystickref14_Take.bits12 : waitsOk tallystickref14_Take.T12.2 tallystickref14_Take.B12 = true := by kernel_rfl
set_option maxRecDepth 100000 in
set_option maxHeartbeats 8000000 in
theorem take_ref (s : ByteArray) (hs : s.size < 9223372036854775807) (w : World) :
    Calls Tryd.prog 26 #[.string s] w fun en w' => ∃ AP kP AQ kQ AT kT, en = .returned (.tuple #[.agg #[.int .i64 (takeRef s).1.1, .int .i64 (takeRef s).1.2.1, .int .i64 (takeRef s).1.2.2.1, .int .i64 (takeRef s).1.2.2.2.1, .int .i64 (takeRef s).1.2.2.2.2.1,
        .slice AP (takeRef s).1.2.2.2.2.2.1.length kP, .slice AQ (takeRef s).1.2.2.2.2.2.2.1.length kQ, .slice AT (takeRef s).1.2.2.2.2.2.2.2.1.length kT, .bool (takeRef s).1.2.2.2.2.2.2.2.2], .int .i64 (takeRef s).2]) ∧
      Kd.V (Kd.int .u64) 79 w' 0 (fun k => w.heap.size ≤ k) (.slice AP (takeRef s).1.2.2.2.2.2.1.length kP) (takeRef s).1.2.2.2.2.2.1 ∧ Kd.V (Kd.int .u64) 79 w' 0 (fun k => w.heap.size ≤ k) (.slice AQ (takeRef s).1.2.2.2.2.2.2.1.length kQ) (takeRef s).1.2.2.2.2.2.2.1 ∧
      Kd.V (Kd.int .u64) 79 w' 0 (fun k => w.heap.size ≤ k) (.slice AT (takeRef s).1.2.2.2.2.2.2.2.1.length kT) (takeRef s).1.2.2.2.2.2.2.2.1 ∧ Below w.heap.size w w' := by
  by_cases h8 : s.size < 8
  · have hR : takeRef s = (zeroRec, 5) := by unfold takeRef; rw [if_pos h8]
    have HR := Lib.hid hR
    have ht : decide (s.size < 8) = true := by simp; omega
    clear hR
    go_enter Tryd.func26, Tryd.ntmps26
    go_wp2
    refine bodyPost_ret (results_ct rfl _ _ w.heap.size 63 #[.int .i64 0, .int .i64 0, .int .i64 0, .int .i64 0, .int .i64 0, .slice none 0 0, .slice none 0 0, .slice none 0 0, .bool false] (0, 0) _ rfl (blk_new _ _) Tryd.underlying63 rfl (by kernel_rfl)) rfl ?_
    rw [HR.out]
    exact ⟨none, 0, none, 0, none, 0, rfl, Kd.V_nil _ _ _ _ _, Kd.V_nil _ _ _ _ _, Kd.V_nil _ _ _ _ _, (Below.refl _ w).alloc (Nat.le_refl _) _⟩
  · obtain ⟨n, hn⟩ : ∃ n : Nat, s.size = n + 4 := ⟨s.size - 4, by omega⟩
    have hn4 : 4 ≤ n := by omega
    have hni : ((s.size : Int) - 4) = (n : Int) := by omega
    have hns : s.size - 4 = n := by omega
    have hle : n ≤ s.size := by omega
    have ht : decide (s.size < 8) = false := by simp; omega
    have hz1 : (s.extract n s.size).size < 9223372036854775807 := by simp; omega
    have hz2 : (s.extract 0 n).size < 9223372036854775807 := by simp; omega
    have HZ1 := Lib.hid hz1
    have HZ2 := Lib.hid hz2
    have HN := Lib.hid hn
    have HNS := Lib.hid hns
    clear hz1 hz2 hn hns
    go_enter Tryd.func26, Tryd.ntmps26
    go_wp2_with fail
    clear hni
    go_quiet (first | (go_at_call 40; exact Calls.quiet_of (rnumber_calls _ HZ1.out _)) | (go_at_call 41; exact Calls.quiet_of (rsum_calls _ HZ2.out _)))
    obtain ⟨W0, hW0⟩ : ∃ X, (w.alloc (.cells #[.int .i64 0, .int .i64 0, .int .i64 0, .int .i64 0, .int .i64 0, .slice none 0 0, .slice none 0 0, .slice none 0 0, .bool false] 63)).drewN nq = X := ⟨_, rfl⟩
    rw [hW0]
    have hbz : W0.heap[w.heap.size]? = some (.cells #[.int .i64 0, .int .i64 0, .int .i64 0, .int .i64 0, .int .i64 0, .slice none 0 0, .slice none 0 0, .slice none 0 0, .bool false] 63 (0, 0)) := by rw [← hW0]; exact blk_new w _
    have hB0 : Below w.heap.size w W0 := by rw [← hW0]; exact pw_below_drewN ((Below.refl _ w).alloc (Nat.le_refl _) _) _
    have HBZ := Lib.hid hbz
    have HB0 := Lib.hid hB0
    have hz0 := blk_cell hbz 0
    have hy0 := blk_frozen hbz 0
    have hz1 := blk_cell hbz 1
    have hy1 := blk_frozen hbz 1
    have hz2 := blk_cell hbz 2
    have hy2 := blk_frozen hbz 2
    have hz3 := blk_cell hbz 3
    have hy3 := blk_frozen hbz 3
    have hz4 := blk_cell hbz 4
    have hy4 := blk_frozen hbz 4
    have hz5 := blk_cell hbz 5
    have hy5 := blk_frozen hbz 5
    have hz6 := blk_cell hbz 6
    have hy6 := blk_frozen hbz 6
    have hz7 := blk_cell hbz 7
    have hy7 := blk_frozen hbz 7
    have hz8 := blk_cell hbz 8
    have hy8 := blk_frozen hbz 8
    simp only [List.getElem?_toArray, List.getElem?_cons_zero, List.getElem?_cons_succ] at hz0 hz1 hz2 hz3 hz4 hz5 hz6 hz7 hz8
    clear hW0 hbz hB0
    have hwr : IntKind.u64.wrap (sumF (s.extract 0 n)) = sumF (s.extract 0 n) := by rw [w64]; have := sumF_range (s.extract 0 n); omega
    rw [hwr]
    clear hwr
    by_cases hq : numF (s.extract n s.size) = sumF (s.extract 0 n)
    · have hb : (numF (s.extract n s.size) != sumF (s.extract 0 n)) = false := bne_eq_false_iff_eq.mpr hq
      rw [hb]
      have HQ := Lib.hid hq
      clear hq hb
      by_cases hm : (s.extract 0 4).toList = [84, 65, 76, 89]
      · have HM := Lib.hid hm
        have hmb : ((s.extract 0 4).toList == [84, 65, 76, 89]) = true := beq_iff_eq.mpr hm
        clear hm
        have hz3 : (s.extract 4 n).size < 9223372036854775807 := by simp; omega
        obtain ⟨b, hbb⟩ : ∃ b, s.extract 4 n = b := ⟨_, rfl⟩
        rw [hbb] at hz3
        have hBS : b.size < 9223372036854775807 := hz3
        have hTk : takeRef s = refBody b := by
          unfold takeRef
          rw [if_neg h8, HNS.out, if_neg (fun h => h HQ.out), if_neg (fun h => h HM.out), hbb]
        have HTK := Lib.hid hTk
        have hi1 : (4 : Int) ≤ (n : Int) := by omega
        have hi2 : (n : Int) ≤ (s.size : Int) := by omega
        have hi3 : (0 : Int) ≤ (n : Int) := by omega
        clear hTk
        by_cases h18 : b.size < 18
        · have ht18 : decide (b.size < 18) = true := by simp; omega
          have HR := Lib.hid (show takeRef s = (zeroRec, 5) by rw [HTK.out]; unfold refBody; rw [if_pos h18])
          go_wp2
          refine bodyPost_ret (results_ct rfl _ _ w.heap.size 63 #[.int .i64 0, .int .i64 0, .int .i64 0, .int .i64 0, .int .i64 0, .slice none 0 0, .slice none 0 0, .slice none 0 0, .bool false] (0, 0) _ rfl ?blk Tryd.underlying63 rfl (by kernel_rfl)) rfl ?_
          case blk => first | (with_reducible exact put9 _ _ _ _ _ _ _ _ _ HBZ.out) | (trace_state; fail)
          rw [HR.out]
          exact ⟨none, 0, none, 0, none, 0, rfl, Kd.V_nil _ _ _ _ _, Kd.V_nil _ _ _ _ _, Kd.V_nil _ _ _ _ _, (put9_kp (fun k => k = w.heap.size) rfl _ _ _ _ _ _ _ _ _).below HB0.out HB0.out.size (fun k h => by omega)⟩
        · have ht18 : decide (b.size < 18) = false := by simp; omega
          have hB18 : 18 ≤ b.size := by omega
          clear h18
          have hz4 : (b.extract 1 5).size < 9223372036854775807 := by simp; omega
          have hz5 : (b.extract 5 9).size < 9223372036854775807 := by simp; omega
          have hz6 : (b.extract 9 13).size < 9223372036854775807 := by simp; omega
          have hz7 : (b.extract 13 17).size < 9223372036854775807 := by simp; omega
          have HZ4 := Lib.hid hz4
          have HZ5 := Lib.hid hz5
          have HZ6 := Lib.hid hz6
          have HZ7 := Lib.hid hz7
          clear hz4 hz5 hz6 hz7
          have hj0 : (0 : Int) < (b.size : Int) := by omega
          have hj5 : (5 : Int) ≤ (b.size : Int) := by omega
          have hj9 : (9 : Int) ≤ (b.size : Int) := by omega
          have hj13 : (13 : Int) ≤ (b.size : Int) := by omega
          have hj17 : (17 : Int) ≤ (b.size : Int) := by omega
          have hj17' : (17 : Int) < (b.size : Int) := by omega
          have hj18 : (18 : Int) ≤ (b.size : Int) := by omega
          have hjj0 : 0 < b.size := by omega
          have hjj17 : 17 < b.size := by omega
          obtain ⟨k, hk⟩ : ∃ k, b.size < k := ⟨b.size + 1, Nat.lt_succ_self _⟩
          have fuel : ∀ x : ByteArray, x.size < 9223372036854775807 → x.size ≤ b.size → tallystickref14_number.f k x = some (numF x) := fun x h1 h2 => number_ref x h1 k (by omega)
          have A26 := Aside0.mk (fuel _ HZ4.out (by simp; omega))
          have A29 := Aside0.mk (fuel _ HZ5.out (by simp; omega))
          have A32 := Aside0.mk (fuel _ HZ6.out (by simp; omega))
          have A35 := Aside0.mk (fuel _ HZ7.out (by simp; omega))
          obtain ⟨t227, h227⟩ : ∃ t, numF (b.extract 1 5) = t := ⟨_, rfl⟩
          obtain ⟨t228, h228⟩ : ∃ t, numF (b.extract 5 9) = t := ⟨_, rfl⟩
          obtain ⟨t230, h230⟩ : ∃ t, numF (b.extract 9 13) = t := ⟨_, rfl⟩
          obtain ⟨t231, h231⟩ : ∃ t, numF (b.extract 13 17) = t := ⟨_, rfl⟩
          rw [h227] at A26
          rw [h228] at A29
          rw [h230] at A32
          rw [h231] at A35
          have HN27 := Lib.hid h227
          have HN28 := Lib.hid h228
          have HN30 := Lib.hid h230
          have HN31 := Lib.hid h231
          clear h227 h228 h230 h231 fuel hk
          go_wp2_with fail
          obtain ⟨gb224, hgb⟩ : ∃ g, w.heap.size = g := ⟨_, rfl⟩
          have BK224 := Aside0.mk (blk_drew (hgb ▸ HBZ.out : W0.heap[gb224]? = some (.cells #[.int .i64 0, .int .i64 0, .int .i64 0, .int .i64 0, .int .i64 0, .slice none 0 0, .slice none 0 0, .slice none 0 0, .bool false] 63 (0, 0))))
          have GE224 : Aside0 (w.heap.size ≤ gb224) := ⟨by omega⟩
          have GW224 : Aside0 (w.heap.size ≤ gb224) := ⟨by omega⟩
          have HB := Aside0.mk (below_drew1 HB0.out)
          rw [hgb]
          have HGB := Lib.hid hgb
          clear hgb hz0 hz1 hz2 hz3 hz4 hz5 hz6 hz7 hz8 hy0 hy1 hy2 hy3 hy4 hy5 hy6 hy7 hy8
          have hx23 : ∀ h : 0 < b.size, ((b[0]'h).toNat : Int) = bt b 0 := bt_at b 0
          have qi23 : (0 < (b.size : Int)) = True := eq_true hj0
          have q23 : (0 < b.size) = True := eq_true hjj0
          refine start_ (n := 15) (S := fun w' => True) (ds := []) #[false, false, false, false, false, false, false, false, false, false, false, false, false, false, false] (by kernel_rfl) rfl rfl trivial (fun hHeld => ?_); refine with_tabW tallystickref14_Take.tab11 tallystickref14_Take.bits11 (fun HT_ HW_ => ?_)
          generalize W0.drew = w41 at BK224 HB hHeld ⊢
          refine pure_ (i := 0) (N := some 46) (v := ?_) (a' := ?_) #[true, false, false, false, false, false, false, false, false, false, false, false, false, false, false] rfl rfl (any_of HT_.out (by kernel_rfl)) (fun _ _ _ h => h) (Or.inl ⟨by rfl, ?_⟩) ?_ ?_
          rotate_left
          · intro w'
            go_simp
            with_reducible rfl
          rotate_left
          · simp only [Act.put, List.setIfInBounds_toArray, List.set_cons_zero, List.set_cons_succ, i64_w, i32_w]
            rfl
          refine pure_ (i := 3) (N := some 49) (v := ?_) (a' := ?_) #[true, false, false, true, false, false, false, false, false, false, false, false, false, false, false] rfl rfl (any_of HT_.out (by kernel_rfl)) (fun _ _ _ h => h) (Or.inl ⟨by rfl, ?_⟩) ?_ ?_
          rotate_left
          · intro w'
            go_simp
            with_reducible rfl
          rotate_left
          · simp only [Act.put, List.setIfInBounds_toArray, List.set_cons_zero, List.set_cons_succ, i64_w, i32_w]
            rfl
          refine pure_ (i := 4) (N := some 50) (v := ?_) (a' := ?_) #[true, false, false, true, true, false, false, false, false, false, false, false, false, false, false] rfl rfl (any_of HT_.out (by kernel_rfl)) (fun _ _ _ h => h) (Or.inl ⟨by rfl, ?_⟩) ?_ ?_
          rotate_left
          · intro w'
            go_simp
            with_reducible rfl
          rotate_left
          · simp only [Act.put, List.setIfInBounds_toArray, List.set_cons_zero, List.set_cons_succ, i64_w, i32_w]
            rfl
          refine pure_ (i := 7) (N := some 53) (v := ?_) (a' := ?_) #[true, false, false, true, true, false, false, true, false, false, false, false, false, false, false] rfl rfl (any_of HT_.out (by kernel_rfl)) (fun _ _ _ h => h) (Or.inl ⟨by rfl, ?_⟩) ?_ ?_
          rotate_left
          · intro w'
            go_simp
            with_reducible rfl
          rotate_left
          · simp only [Act.put, List.setIfInBounds_toArray, List.set_cons_zero, List.set_cons_succ, i64_w, i32_w]
            rfl
          refine pure_ (i := 8) (N := some 54) (v := ?_) (a' := ?_) #[true, false, false, true, true, false, false, true, true, false, false, false, false, false, false] rfl rfl (any_of HT_.out (by kernel_rfl)) (fun _ _ _ h => h) (Or.inl ⟨by rfl, ?_⟩) ?_ ?_
          rotate_left
          · intro w'
            go_simp
            with_reducible rfl
          rotate_left
          · simp only [Act.put, List.setIfInBounds_toArray, List.set_cons_zero, List.set_cons_succ, i64_w, i32_w]
            rfl
          refine take_ (i := 1) (N := some 47) (v := ?_) (a' := ?_) #[true, true, false, true, true, false, false, true, true, false, false, false, false, false, false] rfl rfl (take_ofW HT_.out HW_.out (by kernel_rfl)) (fun _ _ _ h => h) (Or.inl ⟨by rfl, ?_⟩) hHeld ?_ ?_
          rotate_left
          · intro w' _
            go_simp
            with_reducible rfl
          rotate_left
          · simp only [Act.put, List.setIfInBounds_toArray, List.set_cons_zero, List.set_cons_succ, i64_w, i32_w]
            rfl
          refine pure_ (i := 2) (N := some 48) (v := ?_) (a' := ?_) #[true, true, true, true, true, false, false, true, true, false, false, false, false, false, false] rfl rfl (any_of HT_.out (by kernel_rfl)) (fun _ _ _ h => h) (Or.inl ⟨by rfl, ?_⟩) ?_ ?_
          rotate_left
          · intro w'
            go_simp
            with_reducible rfl
          rotate_left
          · simp only [Act.put, List.setIfInBounds_toArray, List.set_cons_zero, List.set_cons_succ, i64_w, i32_w]
            rfl
          refine join_ (σ := Nat) 1 #[true, true, true, true, true, true, true, true, true, true, true, true, true, true, false] (fun s_ => [(51, .int .u64 t227), (55, .int .u64 t228), (6, .pointer (some ⟨s_, 0, none⟩)), (52, .int .i64 (wrap64 (t227))), (56, .int .i64 (wrap64 (t228))), (57, .agg #[.int .i64 (wrap64 (bt b 0)), .int .i64 (wrap64 (t227)), .int .i64 (wrap64 (t228))]), (58, .agg #[.int .i64 (wrap64 (bt b 0)), .int .i64 (wrap64 (t227)), .int .i64 (wrap64 (t228)), .int .i64 0, .int .i64 0, .slice none 0 0, .slice none 0 0, .slice none 0 0, .bool false])]) (fun s_ w' => (w'.heap[gb224]? = some (.cells #[.int .i64 0, .int .i64 0, .int .i64 0, .int .i64 0, .int .i64 0, .slice none 0 0, .slice none 0 0, .slice none 0 0, .bool false] 63 (0, 0))) ∧ (w'.heap[s_]? = some (.cells #[.int .i64 0, .int .i64 0, .int .i64 0, .int .i64 0, .int .i64 0, .slice none 0 0, .slice none 0 0, .slice none 0 0, .bool false] 63 (0, 0))) ∧ (w.heap.size ≤ s_) ∧ (w.heap.size ≤ s_) ∧ (gb224 ≠ s_) ∧ (s_ ≠ gb224) ∧ (Below w.heap.size w w')) ?_ ?_
          rotate_left
          · intro hCont
            refine two_ (i := 5) (j := 13) (Ni := some 51) (Nj := some 6) #[true, true, true, true, true, true, false, true, true, false, false, false, false, false, false] #[true, true, true, true, true, false, false, true, true, false, false, false, false, true, false] rfl rfl rfl rfl (two_of HT_.out (by kernel_rfl)) (by decide) (by decide) (fun K hK => ?_) (fun K hK => ?_)
            · skip
              refine goes_ Tryd.func40 (by kernel_rfl) rfl #[.string (b.extract 1 5)] (by rfl) rfl rfl (by (try simp only [List.map_toArray, List.map_cons, List.map_nil]); first | done | (fail) | rfl | (simp only [List.length_drop, List.length_take]; rfl)) ?_
              with_reducible refine (tallystickref14_number.calls k (b.extract 1 5) t227 _ A26.out).mono ?_
              rintro e w' ⟨rfl, ⟨nd, rfl⟩⟩
              refine ⟨_, rfl, ?_⟩
              refine hK.out _ _ trivial (fun hHeld => ?_)
              clear hK K
              refine norm_ (a' := ?_) ?_ ?_
              rotate_left
              · show Act.put _ (some 51) _ = _
                simp only [Act.put, List.setIfInBounds_toArray, List.set_cons_zero, List.set_cons_succ, i64_w, i32_w]
                rfl
              refine pure_ (i := 6) (N := some 52) (v := ?_) (a' := ?_) #[true, true, true, true, true, true, true, true, true, false, false, false, false, false, false] rfl rfl (any_of HT_.out (by kernel_rfl)) (fun _ _ _ h => h) (Or.inl ⟨by rfl, ?_⟩) ?_ ?_
              rotate_left
              · intro w'
                go_simp
                with_reducible rfl
              rotate_left
              · simp only [Act.put, List.setIfInBounds_toArray, List.set_cons_zero, List.set_cons_succ, i64_w, i32_w]
                rfl
              refine two_ (i := 9) (j := 13) (Ni := some 55) (Nj := some 6) #[true, true, true, true, true, true, true, true, true, true, false, false, false, false, false] #[true, true, true, true, true, true, true, true, true, false, false, false, false, true, false] rfl rfl rfl rfl (two_of HT_.out (by kernel_rfl)) (by decide) (by decide) (fun K hK => ?_) (fun K hK => ?_)
              · skip
                refine goes_ Tryd.func40 (by kernel_rfl) rfl #[.string (b.extract 5 9)] (by rfl) rfl rfl (by (try simp only [List.map_toArray, List.map_cons, List.map_nil]); first | done | (fail) | rfl | (simp only [List.length_drop, List.length_take]; rfl)) ?_
                with_reducible refine (tallystickref14_number.calls k (b.extract 5 9) t228 _ A29.out).mono ?_
                rintro e w' ⟨rfl, ⟨nd, rfl⟩⟩
                refine ⟨_, rfl, ?_⟩
                refine hK.out _ _ trivial (fun hHeld => ?_)
                clear hK K
                refine norm_ (a' := ?_) ?_ ?_
                rotate_left
                · show Act.put _ (some 55) _ = _
                  simp only [Act.put, List.setIfInBounds_toArray, List.set_cons_zero, List.set_cons_succ, i64_w, i32_w]
                  rfl
                refine pure_ (i := 10) (N := some 56) (v := ?_) (a' := ?_) #[true, true, true, true, true, true, true, true, true, true, true, false, false, false, false] rfl rfl (any_of HT_.out (by kernel_rfl)) (fun _ _ _ h => h) (Or.inl ⟨by rfl, ?_⟩) ?_ ?_
                rotate_left
                · intro w'
                  go_simp
                  with_reducible rfl
                rotate_left
                · simp only [Act.put, List.setIfInBounds_toArray, List.set_cons_zero, List.set_cons_succ, i64_w, i32_w]
                  rfl
                refine pure_ (i := 11) (N := some 57) (v := ?_) (a' := ?_) #[true, true, true, true, true, true, true, true, true, true, true, true, false, false, false] rfl rfl (any_of HT_.out (by kernel_rfl)) (fun _ _ _ h => h) (Or.inl ⟨by rfl, ?_⟩) ?_ ?_
                rotate_left
                · intro w'
                  go_simp
                  with_reducible rfl
                rotate_left
                · simp only [Act.put, List.setIfInBounds_toArray, List.set_cons_zero, List.set_cons_succ, i64_w, i32_w]
                  rfl
                refine pure_ (i := 12) (N := some 58) (v := ?_) (a' := ?_) #[true, true, true, true, true, true, true, true, true, true, true, true, true, false, false] rfl rfl (any_of HT_.out (by kernel_rfl)) (fun _ _ _ h => h) (Or.inl ⟨by rfl, ?_⟩) ?_ ?_
                rotate_left
                · intro w'
                  go_simp
                  with_reducible rfl
                rotate_left
                · simp only [Act.put, List.setIfInBounds_toArray, List.set_cons_zero, List.set_cons_succ, i64_w, i32_w]
                  rfl
                refine one_ (i := 13) (N := some 6) #[true, true, true, true, true, true, true, true, true, true, true, true, true, true, false] rfl rfl (one_of HT_.out (by kernel_rfl)) (by decide) (fun K hK => ?_)
                refine box_step ?hg (N := 6) ?hd (cs := #[.int .i64 0, .int .i64 0, .int .i64 0, .int .i64 0, .int .i64 0, .slice none 0 0, .slice none 0 0, .slice none 0 0, .bool false]) (t := 63) ?hr ?_; (case hd => rfl); (case hg => rfl); (case hr => first | (go_simp; done) | (go_simp; rfl))
                intro gb229 hg w42 hbox hb
                have n0_ := Aside0.mk (blk_below (g := gb224) (o := .cells #[.int .i64 0, .int .i64 0, .int .i64 0, .int .i64 0, .int .i64 0, .slice none 0 0, .slice none 0 0, .slice none 0 0, .bool false] 63 (0, 0)) (by (with_reducible repeat (first | refine blk_drewN ?_ _ | refine blk_drew ?_ | refine blk_alloc ?_ _)); exact BK224.out) hb)
                have n1_ := Aside0.mk (below_step (by repeat (first | (with_reducible first | exact HB.out | apply below_alloc | apply pw_below_drewN | apply below_drew1 | refine below_set ?_ GE224.out) | exact HB.out)) hb)
                have n2_ := Aside0.mk (hbox)
                have n3_ := Aside0.mk ((by rw [hg]; exact (below_size (by repeat (first | (with_reducible first | exact HB.out | apply below_alloc | apply pw_below_drewN | apply below_drew1 | refine below_set ?_ GE224.out) | exact HB.out))) : w.heap.size ≤ gb229))
                have n4_ := Aside0.mk ((by rw [hg]; exact (below_size (by repeat (first | (with_reducible first | exact HB.out | apply below_alloc | apply pw_below_drewN | apply below_drew1 | refine below_set ?_ GE224.out) | exact HB.out))) : w.heap.size ≤ gb229))
                have n5_ := Aside0.mk ((by rw [hg]; exact Nat.ne_of_lt (blk_lt (g := gb224) (o := .cells #[.int .i64 0, .int .i64 0, .int .i64 0, .int .i64 0, .int .i64 0, .slice none 0 0, .slice none 0 0, .slice none 0 0, .bool false] 63 (0, 0)) (by (with_reducible repeat (first | refine blk_drewN ?_ _ | refine blk_drew ?_ | refine blk_alloc ?_ _)); exact BK224.out)) : gb224 ≠ gb229))
                have n6_ := Aside0.mk ((by rw [hg]; exact Nat.ne_of_gt (blk_lt (g := gb224) (o := .cells #[.int .i64 0, .int .i64 0, .int .i64 0, .int .i64 0, .int .i64 0, .slice none 0 0, .slice none 0 0, .slice none 0 0, .bool false] 63 (0, 0)) (by (with_reducible repeat (first | refine blk_drewN ?_ _ | refine blk_drew ?_ | refine blk_alloc ?_ _)); exact BK224.out)) : gb229 ≠ gb224))
                clear BK224
                clear HB
                have BK224 := n0_
                have HB := n1_
                have BK229 := n2_
                have GW229 := n3_
                have GE229 := n4_
                have NB224_229 := n5_
                have NB229_224 := n6_
                clear n0_ n1_ n2_ n3_ n4_ n5_ n6_
                clear hb hbox hg
                refine hK.out _ _ trivial (fun hHeld => ?_)
                clear hK K
                refine norm_ (a' := ?_) ?_ ?_
                rotate_left
                · show Act.put _ (some 6) _ = _
                  simp only [Act.put, List.setIfInBounds_toArray, List.set_cons_zero, List.set_cons_succ, i64_w, i32_w]
                  rfl
                exact norm_ (by simp only [putAll, Act.put, List.setIfInBounds_toArray, List.set_cons_zero, List.set_cons_succ]) (hCont (gb229) _ ⟨(by (with_reducible repeat (first | refine blk_drewN ?_ _ | refine blk_drew ?_ | refine blk_alloc ?_ _)); exact BK224.out), (by (with_reducible repeat (first | refine blk_drewN ?_ _ | refine blk_drew ?_ | refine blk_alloc ?_ _)); exact BK229.out), GW229.out, GE229.out, NB224_229.out, NB229_224.out, (by repeat (first | (with_reducible first | exact HB.out | apply below_alloc | apply pw_below_drewN | apply below_drew1 | refine below_set ?_ GE224.out | refine below_set ?_ GE229.out) | exact HB.out))⟩)
              · skip
                refine box_step ?hg (N := 6) ?hd (cs := #[.int .i64 0, .int .i64 0, .int .i64 0, .int .i64 0, .int .i64 0, .slice none 0 0, .slice none 0 0, .slice none 0 0, .bool false]) (t := 63) ?hr ?_; (case hd => rfl); (case hg => rfl); (case hr => first | (go_simp; done) | (go_simp; rfl))
                intro gb229 hg w42 hbox hb
                have n0_ := Aside0.mk (blk_below (g := gb224) (o := .cells #[.int .i64 0, .int .i64 0, .int .i64 0, .int .i64 0, .int .i64 0, .slice none 0 0, .slice none 0 0, .slice none 0 0, .bool false] 63 (0, 0)) (by (with_reducible repeat (first | refine blk_drewN ?_ _ | refine blk_drew ?_ | refine blk_alloc ?_ _)); exact BK224.out) hb)
                have n1_ := Aside0.mk (below_step (by repeat (first | (with_reducible first | exact HB.out | apply below_alloc | apply pw_below_drewN | apply below_drew1 | refine below_set ?_ GE224.out) | exact HB.out)) hb)
                have n2_ := Aside0.mk (hbox)
                have n3_ := Aside0.mk ((by rw [hg]; exact (below_size (by repeat (first | (with_reducible first | exact HB.out | apply below_alloc | apply pw_below_drewN | apply below_drew1 | refine below_set ?_ GE224.out) | exact HB.out))) : w.heap.size ≤ gb229))
                have n4_ := Aside0.mk ((by rw [hg]; exact (below_size (by repeat (first | (with_reducible first | exact HB.out | apply below_alloc | apply pw_below_drewN | apply below_drew1 | refine below_set ?_ GE224.out) | exact HB.out))) : w.heap.size ≤ gb229))
                have n5_ := Aside0.mk ((by rw [hg]; exact Nat.ne_of_lt (blk_lt (g := gb224) (o := .cells #[.int .i64 0, .int .i64 0, .int .i64 0, .int .i64 0, .int .i64 0, .slice none 0 0, .slice none 0 0, .slice none 0 0, .bool false] 63 (0, 0)) (by (with_reducible repeat (first | refine blk_drewN ?_ _ | refine blk_drew ?_ | refine blk_alloc ?_ _)); exact BK224.out)) : gb224 ≠ gb229))
                have n6_ := Aside0.mk ((by rw [hg]; exact Nat.ne_of_gt (blk_lt (g := gb224) (o := .cells #[.int .i64 0, .int .i64 0, .int .i64 0, .int .i64 0, .int .i64 0, .slice none 0 0, .slice none 0 0, .slice none 0 0, .bool false] 63 (0, 0)) (by (with_reducible repeat (first | refine blk_drewN ?_ _ | refine blk_drew ?_ | refine blk_alloc ?_ _)); exact BK224.out)) : gb229 ≠ gb224))
                clear BK224
                clear HB
                have BK224 := n0_
                have HB := n1_
                have BK229 := n2_
                have GW229 := n3_
                have GE229 := n4_
                have NB224_229 := n5_
                have NB229_224 := n6_
                clear n0_ n1_ n2_ n3_ n4_ n5_ n6_
                clear hb hbox hg
                refine hK.out _ _ trivial (fun hHeld => ?_)
                clear hK K
                refine norm_ (a' := ?_) ?_ ?_
                rotate_left
                · show Act.put _ (some 6) _ = _
                  simp only [Act.put, List.setIfInBounds_toArray, List.set_cons_zero, List.set_cons_succ, i64_w, i32_w]
                  rfl
                refine one_ (i := 9) (N := some 55) #[true, true, true, true, true, true, true, true, true, true, false, false, false, true, false] rfl rfl (one_of HT_.out (by kernel_rfl)) (by decide) (fun K hK => ?_)
                refine goes_ Tryd.func40 (by kernel_rfl) rfl #[.string (b.extract 5 9)] (by rfl) rfl rfl (by (try simp only [List.map_toArray, List.map_cons, List.map_nil]); first | done | (fail) | rfl | (simp only [List.length_drop, List.length_take]; rfl)) ?_
                with_reducible refine (tallystickref14_number.calls k (b.extract 5 9) t228 _ A29.out).mono ?_
                rintro e w' ⟨rfl, ⟨nd, rfl⟩⟩
                refine ⟨_, rfl, ?_⟩
                refine hK.out _ _ trivial (fun hHeld => ?_)
                clear hK K
                refine norm_ (a' := ?_) ?_ ?_
                rotate_left
                · show Act.put _ (some 55) _ = _
                  simp only [Act.put, List.setIfInBounds_toArray, List.set_cons_zero, List.set_cons_succ, i64_w, i32_w]
                  rfl
                refine pure_ (i := 10) (N := some 56) (v := ?_) (a' := ?_) #[true, true, true, true, true, true, true, true, true, true, true, false, false, true, false] rfl rfl (any_of HT_.out (by kernel_rfl)) (fun _ _ _ h => h) (Or.inl ⟨by rfl, ?_⟩) ?_ ?_
                rotate_left
                · intro w'
                  go_simp
                  with_reducible rfl
                rotate_left
                · simp only [Act.put, List.setIfInBounds_toArray, List.set_cons_zero, List.set_cons_succ, i64_w, i32_w]
                  rfl
                refine pure_ (i := 11) (N := some 57) (v := ?_) (a' := ?_) #[true, true, true, true, true, true, true, true, true, true, true, true, false, true, false] rfl rfl (any_of HT_.out (by kernel_rfl)) (fun _ _ _ h => h) (Or.inl ⟨by rfl, ?_⟩) ?_ ?_
                rotate_left
                · intro w'
                  go_simp
                  with_reducible rfl
                rotate_left
                · simp only [Act.put, List.setIfInBounds_toArray, List.set_cons_zero, List.set_cons_succ, i64_w, i32_w]
                  rfl
                refine pure_ (i := 12) (N := some 58) (v := ?_) (a' := ?_) #[true, true, true, true, true, true, true, true, true, true, true, true, true, true, false] rfl rfl (any_of HT_.out (by kernel_rfl)) (fun _ _ _ h => h) (Or.inl ⟨by rfl, ?_⟩) ?_ ?_
                rotate_left
                · intro w'
                  go_simp
                  with_reducible rfl
                rotate_left
                · simp only [Act.put, List.setIfInBounds_toArray, List.set_cons_zero, List.set_cons_succ, i64_w, i32_w]
                  rfl
                exact norm_ (by simp only [putAll, Act.put, List.setIfInBounds_toArray, List.set_cons_zero, List.set_cons_succ]) (hCont (gb229) _ ⟨(by (with_reducible repeat (first | refine blk_drewN ?_ _ | refine blk_drew ?_ | refine blk_alloc ?_ _)); exact BK224.out), (by (with_reducible repeat (first | refine blk_drewN ?_ _ | refine blk_drew ?_ | refine blk_alloc ?_ _)); exact BK229.out), GW229.out, GE229.out, NB224_229.out, NB229_224.out, (by repeat (first | (with_reducible first | exact HB.out | apply below_alloc | apply pw_below_drewN | apply below_drew1 | refine below_set ?_ GE224.out | refine below_set ?_ GE229.out) | exact HB.out))⟩)
            · skip
              refine box_step ?hg (N := 6) ?hd (cs := #[.int .i64 0, .int .i64 0, .int .i64 0, .int .i64 0, .int .i64 0, .slice none 0 0, .slice none 0 0, .slice none 0 0, .bool false]) (t := 63) ?hr ?_; (case hd => rfl); (case hg => rfl); (case hr => first | (go_simp; done) | (go_simp; rfl))
              intro gb229 hg w42 hbox hb
              have n0_ := Aside0.mk (blk_below (g := gb224) (o := .cells #[.int .i64 0, .int .i64 0, .int .i64 0, .int .i64 0, .int .i64 0, .slice none 0 0, .slice none 0 0, .slice none 0 0, .bool false] 63 (0, 0)) (by (with_reducible repeat (first | refine blk_drewN ?_ _ | refine blk_drew ?_ | refine blk_alloc ?_ _)); exact BK224.out) hb)
              have n1_ := Aside0.mk (below_step (by repeat (first | (with_reducible first | exact HB.out | apply below_alloc | apply pw_below_drewN | apply below_drew1 | refine below_set ?_ GE224.out) | exact HB.out)) hb)
              have n2_ := Aside0.mk (hbox)
              have n3_ := Aside0.mk ((by rw [hg]; exact (below_size (by repeat (first | (with_reducible first | exact HB.out | apply below_alloc | apply pw_below_drewN | apply below_drew1 | refine below_set ?_ GE224.out) | exact HB.out))) : w.heap.size ≤ gb229))
              have n4_ := Aside0.mk ((by rw [hg]; exact (below_size (by repeat (first | (with_reducible first | exact HB.out | apply below_alloc | apply pw_below_drewN | apply below_drew1 | refine below_set ?_ GE224.out) | exact HB.out))) : w.heap.size ≤ gb229))
              have n5_ := Aside0.mk ((by rw [hg]; exact Nat.ne_of_lt (blk_lt (g := gb224) (o := .cells #[.int .i64 0, .int .i64 0, .int .i64 0, .int .i64 0, .int .i64 0, .slice none 0 0, .slice none 0 0, .slice none 0 0, .bool false] 63 (0, 0)) (by (with_reducible repeat (first | refine blk_drewN ?_ _ | refine blk_drew ?_ | refine blk_alloc ?_ _)); exact BK224.out)) : gb224 ≠ gb229))
              have n6_ := Aside0.mk ((by rw [hg]; exact Nat.ne_of_gt (blk_lt (g := gb224) (o := .cells #[.int .i64 0, .int .i64 0, .int .i64 0, .int .i64 0, .int .i64 0, .slice none 0 0, .slice none 0 0, .slice none 0 0, .bool false] 63 (0, 0)) (by (with_reducible repeat (first | refine blk_drewN ?_ _ | refine blk_drew ?_ | refine blk_alloc ?_ _)); exact BK224.out)) : gb229 ≠ gb224))
              clear BK224
              clear HB
              have BK224 := n0_
              have HB := n1_
              have BK229 := n2_
              have GW229 := n3_
              have GE229 := n4_
              have NB224_229 := n5_
              have NB229_224 := n6_
              clear n0_ n1_ n2_ n3_ n4_ n5_ n6_
              clear hb hbox hg
              refine hK.out _ _ trivial (fun hHeld => ?_)
              clear hK K
              refine norm_ (a' := ?_) ?_ ?_
              rotate_left
              · show Act.put _ (some 6) _ = _
                simp only [Act.put, List.setIfInBounds_toArray, List.set_cons_zero, List.set_cons_succ, i64_w, i32_w]
                rfl
              refine one_ (i := 5) (N := some 51) #[true, true, true, true, true, true, false, true, true, false, false, false, false, true, false] rfl rfl (one_of HT_.out (by kernel_rfl)) (by decide) (fun K hK => ?_)
              refine goes_ Tryd.func40 (by kernel_rfl) rfl #[.string (b.extract 1 5)] (by rfl) rfl rfl (by (try simp only [List.map_toArray, List.map_cons, List.map_nil]); first | done | (fail) | rfl | (simp only [List.length_drop, List.length_take]; rfl)) ?_
              with_reducible refine (tallystickref14_number.calls k (b.extract 1 5) t227 _ A26.out).mono ?_
              rintro e w' ⟨rfl, ⟨nd, rfl⟩⟩
              refine ⟨_, rfl, ?_⟩
              refine hK.out _ _ trivial (fun hHeld => ?_)
              clear hK K
              refine norm_ (a' := ?_) ?_ ?_
              rotate_left
              · show Act.put _ (some 51) _ = _
                simp only [Act.put, List.setIfInBounds_toArray, List.set_cons_zero, List.set_cons_succ, i64_w, i32_w]
                rfl
              refine pure_ (i := 6) (N := some 52) (v := ?_) (a' := ?_) #[true, true, true, true, true, true, true, true, true, false, false, false, false, true, false] rfl rfl (any_of HT_.out (by kernel_rfl)) (fun _ _ _ h => h) (Or.inl ⟨by rfl, ?_⟩) ?_ ?_
              rotate_left
              · intro w'
                go_simp
                with_reducible rfl
              rotate_left
              · simp only [Act.put, List.setIfInBounds_toArray, List.set_cons_zero, List.set_cons_succ, i64_w, i32_w]
                rfl
              refine one_ (i := 9) (N := some 55) #[true, true, true, true, true, true, true, true, true, true, false, false, false, true, false] rfl rfl (one_of HT_.out (by kernel_rfl)) (by decide) (fun K hK => ?_)
              refine goes_ Tryd.func40 (by kernel_rfl) rfl #[.string (b.extract 5 9)] (by rfl) rfl rfl (by (try simp only [List.map_toArray, List.map_cons, List.map_nil]); first | done | (fail) | rfl | (simp only [List.length_drop, List.length_take]; rfl)) ?_
              with_reducible refine (tallystickref14_number.calls k (b.extract 5 9) t228 _ A29.out).mono ?_
              rintro e w' ⟨rfl, ⟨nd, rfl⟩⟩
              refine ⟨_, rfl, ?_⟩
              refine hK.out _ _ trivial (fun hHeld => ?_)
              clear hK K
              refine norm_ (a' := ?_) ?_ ?_
              rotate_left
              · show Act.put _ (some 55) _ = _
                simp only [Act.put, List.setIfInBounds_toArray, List.set_cons_zero, List.set_cons_succ, i64_w, i32_w]
                rfl
              refine pure_ (i := 10) (N := some 56) (v := ?_) (a' := ?_) #[true, true, true, true, true, true, true, true, true, true, true, false, false, true, false] rfl rfl (any_of HT_.out (by kernel_rfl)) (fun _ _ _ h => h) (Or.inl ⟨by rfl, ?_⟩) ?_ ?_
              rotate_left
              · intro w'
                go_simp
                with_reducible rfl
              rotate_left
              · simp only [Act.put, List.setIfInBounds_toArray, List.set_cons_zero, List.set_cons_succ, i64_w, i32_w]
                rfl
              refine pure_ (i := 11) (N := some 57) (v := ?_) (a' := ?_) #[true, true, true, true, true, true, true, true, true, true, true, true, false, true, false] rfl rfl (any_of HT_.out (by kernel_rfl)) (fun _ _ _ h => h) (Or.inl ⟨by rfl, ?_⟩) ?_ ?_
              rotate_left
              · intro w'
                go_simp
                with_reducible rfl
              rotate_left
              · simp only [Act.put, List.setIfInBounds_toArray, List.set_cons_zero, List.set_cons_succ, i64_w, i32_w]
                rfl
              refine pure_ (i := 12) (N := some 58) (v := ?_) (a' := ?_) #[true, true, true, true, true, true, true, true, true, true, true, true, true, true, false] rfl rfl (any_of HT_.out (by kernel_rfl)) (fun _ _ _ h => h) (Or.inl ⟨by rfl, ?_⟩) ?_ ?_
              rotate_left
              · intro w'
                go_simp
                with_reducible rfl
              rotate_left
              · simp only [Act.put, List.setIfInBounds_toArray, List.set_cons_zero, List.set_cons_succ, i64_w, i32_w]
                rfl
              exact norm_ (by simp only [putAll, Act.put, List.setIfInBounds_toArray, List.set_cons_zero, List.set_cons_succ]) (hCont (gb229) _ ⟨(by (with_reducible repeat (first | refine blk_drewN ?_ _ | refine blk_drew ?_ | refine blk_alloc ?_ _)); exact BK224.out), (by (with_reducible repeat (first | refine blk_drewN ?_ _ | refine blk_drew ?_ | refine blk_alloc ?_ _)); exact BK229.out), GW229.out, GE229.out, NB224_229.out, NB229_224.out, (by repeat (first | (with_reducible first | exact HB.out | apply below_alloc | apply pw_below_drewN | apply below_drew1 | refine below_set ?_ GE224.out | refine below_set ?_ GE229.out) | exact HB.out))⟩)
          rintro gb229 w43 ⟨h0_, h1_, h2_, h3_, h4_, h5_, h6_⟩
          have n0_ : Aside0 (w43.heap[gb224]? = some (.cells #[.int .i64 0, .int .i64 0, .int .i64 0, .int .i64 0, .int .i64 0, .slice none 0 0, .slice none 0 0, .slice none 0 0, .bool false] 63 (0, 0))) := ⟨h0_⟩
          have n1_ : Aside0 (w43.heap[gb229]? = some (.cells #[.int .i64 0, .int .i64 0, .int .i64 0, .int .i64 0, .int .i64 0, .slice none 0 0, .slice none 0 0, .slice none 0 0, .bool false] 63 (0, 0))) := ⟨h1_⟩
          have n2_ : Aside0 (w.heap.size ≤ gb229) := ⟨h2_⟩
          have n3_ : Aside0 (w.heap.size ≤ gb229) := ⟨h3_⟩
          have n4_ : Aside0 (gb224 ≠ gb229) := ⟨h4_⟩
          have n5_ : Aside0 (gb229 ≠ gb224) := ⟨h5_⟩
          have n6_ : Aside0 (Below w.heap.size w w43) := ⟨h6_⟩
          clear BK224
          clear HB
          clear h0_ h1_ h2_ h3_ h4_ h5_ h6_
          have BK224 := n0_
          have BK229 := n1_
          have GW229 := n2_
          have GE229 := n3_
          have NB224_229 := n4_
          have NB229_224 := n5_
          have HB := n6_
          clear n0_ n1_ n2_ n3_ n4_ n5_ n6_
          have hHeld := trivial
          refine norm_ (a' := ?_) ?_ ?_
          rotate_left
          · simp only [putAll, Act.put, List.setIfInBounds_toArray, List.set_cons_zero, List.set_cons_succ]
            rfl
          refine one_ (i := 14) (N := none) #[true, true, true, true, true, true, true, true, true, true, true, true, true, true, true] rfl rfl (one_of HT_.out (by kernel_rfl)) (by decide) (fun K hK => ?_)
          have hs44 : w43.cell? ⟨gb229, 0, none⟩ = some (.int .i64 0) := (blk_cell BK229.out 0).trans rfl
          have hfs44 := blk_frozen BK229.out 0
          have hns44_0 := NB224_229.out
          have hms44_0 := NB229_224.out
          have hs45 : w43.cell? ⟨gb229, 1, none⟩ = some (.int .i64 0) := (blk_cell BK229.out 1).trans rfl
          have hfs45 := blk_frozen BK229.out 1
          have hns45_0 := NB224_229.out
          have hms45_0 := NB229_224.out
          have hs46 : w43.cell? ⟨gb229, 2, none⟩ = some (.int .i64 0) := (blk_cell BK229.out 2).trans rfl
          have hfs46 := blk_frozen BK229.out 2
          have hns46_0 := NB224_229.out
          have hms46_0 := NB229_224.out
          have hs47 : w43.cell? ⟨gb229, 3, none⟩ = some (.int .i64 0) := (blk_cell BK229.out 3).trans rfl
          have hfs47 := blk_frozen BK229.out 3
          have hns47_0 := NB224_229.out
          have hms47_0 := NB229_224.out
          have hs48 : w43.cell? ⟨gb229, 4, none⟩ = some (.int .i64 0) := (blk_cell BK229.out 4).trans rfl
          have hfs48 := blk_frozen BK229.out 4
          have hns48_0 := NB224_229.out
          have hms48_0 := NB229_224.out
          have hs49 : w43.cell? ⟨gb229, 5, none⟩ = some (.slice none 0 0) := (blk_cell BK229.out 5).trans rfl
          have hfs49 := blk_frozen BK229.out 5
          have hns49_0 := NB224_229.out
          have hms49_0 := NB229_224.out
          have hs50 : w43.cell? ⟨gb229, 6, none⟩ = some (.slice none 0 0) := (blk_cell BK229.out 6).trans rfl
          have hfs50 := blk_frozen BK229.out 6
          have hns50_0 := NB224_229.out
          have hms50_0 := NB229_224.out
          have hs51 : w43.cell? ⟨gb229, 7, none⟩ = some (.slice none 0 0) := (blk_cell BK229.out 7).trans rfl
          have hfs51 := blk_frozen BK229.out 7
          have hns51_0 := NB224_229.out
          have hms51_0 := NB229_224.out
          have hs52 : w43.cell? ⟨gb229, 8, none⟩ = some (.bool false) := (blk_cell BK229.out 8).trans rfl
          have hfs52 := blk_frozen BK229.out 8
          have hns52_0 := NB224_229.out
          have hms52_0 := NB229_224.out
          refine skip_ (w1 := ?_) (by rfl) rfl ?_ ?_
          rotate_left
          · go_simp
            rfl
          refine hK.out _ _ trivial (fun hHeld => ?_)
          clear hK K
          refine done_ (done_of HT_.out (by kernel_rfl)) ?_
          try go_wp2
          have n0_ : Aside0 ((((((((((w43.setCell ⟨gb229, 0, none⟩ (.int .i64 (wrap64 (bt b 0)))).setCell ⟨gb229, 1, none⟩ (.int .i64 (wrap64 (t227)))).setCell ⟨gb229, 2, none⟩ (.int .i64 (wrap64 (t228)))).setCell ⟨gb229, 3, none⟩ (.int .i64 0)).setCell ⟨gb229, 4, none⟩ (.int .i64 0)).setCell ⟨gb229, 5, none⟩ (.slice none 0 0)).setCell ⟨gb229, 6, none⟩ (.slice none 0 0)).setCell ⟨gb229, 7, none⟩ (.slice none 0 0)).setCell ⟨gb229, 8, none⟩ (.bool false)).heap[gb224]? = some (.cells #[.int .i64 0, .int .i64 0, .int .i64 0, .int .i64 0, .int .i64 0, .slice none 0 0, .slice none 0 0, .slice none 0 0, .bool false] 63 (0, 0))) := ⟨by (with_reducible repeat (first | refine blk_drewN ?_ _ | refine blk_drew ?_ | refine blk_alloc ?_ _)); refine blk_far ?_ NB224_229.out _; (with_reducible repeat (first | refine blk_drewN ?_ _ | refine blk_drew ?_ | refine blk_alloc ?_ _)); refine blk_far ?_ NB224_229.out _; (with_reducible repeat (first | refine blk_drewN ?_ _ | refine blk_drew ?_ | refine blk_alloc ?_ _)); refine blk_far ?_ NB224_229.out _; (with_reducible repeat (first | refine blk_drewN ?_ _ | refine blk_drew ?_ | refine blk_alloc ?_ _)); refine blk_far ?_ NB224_229.out _; (with_reducible repeat (first | refine blk_drewN ?_ _ | refine blk_drew ?_ | refine blk_alloc ?_ _)); refine blk_far ?_ NB224_229.out _; (with_reducible repeat (first | refine blk_drewN ?_ _ | refine blk_drew ?_ | refine blk_alloc ?_ _)); refine blk_far ?_ NB224_229.out _; (with_reducible repeat (first | refine blk_drewN ?_ _ | refine blk_drew ?_ | refine blk_alloc ?_ _)); refine blk_far ?_ NB224_229.out _; (with_reducible repeat (first | refine blk_drewN ?_ _ | refine blk_drew ?_ | refine blk_alloc ?_ _)); refine blk_far ?_ NB224_229.out _; (with_reducible repeat (first | refine blk_drewN ?_ _ | refine blk_drew ?_ | refine blk_alloc ?_ _)); refine blk_far ?_ NB224_229.out _; (with_reducible repeat (first | refine blk_drewN ?_ _ | refine blk_drew ?_ | refine blk_alloc ?_ _)); exact BK224.out⟩
          have n1_ : Aside0 ((((((((((w43.setCell ⟨gb229, 0, none⟩ (.int .i64 (wrap64 (bt b 0)))).setCell ⟨gb229, 1, none⟩ (.int .i64 (wrap64 (t227)))).setCell ⟨gb229, 2, none⟩ (.int .i64 (wrap64 (t228)))).setCell ⟨gb229, 3, none⟩ (.int .i64 0)).setCell ⟨gb229, 4, none⟩ (.int .i64 0)).setCell ⟨gb229, 5, none⟩ (.slice none 0 0)).setCell ⟨gb229, 6, none⟩ (.slice none 0 0)).setCell ⟨gb229, 7, none⟩ (.slice none 0 0)).setCell ⟨gb229, 8, none⟩ (.bool false)).heap[gb229]? = some (.cells #[.int .i64 (wrap64 (bt b 0)), .int .i64 (wrap64 (t227)), .int .i64 (wrap64 (t228)), .int .i64 0, .int .i64 0, .slice none 0 0, .slice none 0 0, .slice none 0 0, .bool false] 63 (0, 0))) := ⟨by (with_reducible repeat (first | refine blk_drewN ?_ _ | refine blk_drew ?_ | refine blk_alloc ?_ _)); refine blk_put (cs := #[.int .i64 (wrap64 (bt b 0)), .int .i64 (wrap64 (t227)), .int .i64 (wrap64 (t228)), .int .i64 0, .int .i64 0, .slice none 0 0, .slice none 0 0, .slice none 0 0, .bool false]) ?_ 8 _ rfl; (with_reducible repeat (first | refine blk_drewN ?_ _ | refine blk_drew ?_ | refine blk_alloc ?_ _)); refine blk_put (cs := #[.int .i64 (wrap64 (bt b 0)), .int .i64 (wrap64 (t227)), .int .i64 (wrap64 (t228)), .int .i64 0, .int .i64 0, .slice none 0 0, .slice none 0 0, .slice none 0 0, .bool false]) ?_ 7 _ rfl; (with_reducible repeat (first | refine blk_drewN ?_ _ | refine blk_drew ?_ | refine blk_alloc ?_ _)); refine blk_put (cs := #[.int .i64 (wrap64 (bt b 0)), .int .i64 (wrap64 (t227)), .int .i64 (wrap64 (t228)), .int .i64 0, .int .i64 0, .slice none 0 0, .slice none 0 0, .slice none 0 0, .bool false]) ?_ 6 _ rfl; (with_reducible repeat (first | refine blk_drewN ?_ _ | refine blk_drew ?_ | refine blk_alloc ?_ _)); refine blk_put (cs := #[.int .i64 (wrap64 (bt b 0)), .int .i64 (wrap64 (t227)), .int .i64 (wrap64 (t228)), .int .i64 0, .int .i64 0, .slice none 0 0, .slice none 0 0, .slice none 0 0, .bool false]) ?_ 5 _ rfl; (with_reducible repeat (first | refine blk_drewN ?_ _ | refine blk_drew ?_ | refine blk_alloc ?_ _)); refine blk_put (cs := #[.int .i64 (wrap64 (bt b 0)), .int .i64 (wrap64 (t227)), .int .i64 (wrap64 (t228)), .int .i64 0, .int .i64 0, .slice none 0 0, .slice none 0 0, .slice none 0 0, .bool false]) ?_ 4 _ rfl; (with_reducible repeat (first | refine blk_drewN ?_ _ | refine blk_drew ?_ | refine blk_alloc ?_ _)); refine blk_put (cs := #[.int .i64 (wrap64 (bt b 0)), .int .i64 (wrap64 (t227)), .int .i64 (wrap64 (t228)), .int .i64 0, .int .i64 0, .slice none 0 0, .slice none 0 0, .slice none 0 0, .bool false]) ?_ 3 _ rfl; (with_reducible repeat (first | refine blk_drewN ?_ _ | refine blk_drew ?_ | refine blk_alloc ?_ _)); refine blk_put (cs := #[.int .i64 (wrap64 (bt b 0)), .int .i64 (wrap64 (t227)), .int .i64 0, .int .i64 0, .int .i64 0, .slice none 0 0, .slice none 0 0, .slice none 0 0, .bool false]) ?_ 2 _ rfl; (with_reducible repeat (first | refine blk_drewN ?_ _ | refine blk_drew ?_ | refine blk_alloc ?_ _)); refine blk_put (cs := #[.int .i64 (wrap64 (bt b 0)), .int .i64 0, .int .i64 0, .int .i64 0, .int .i64 0, .slice none 0 0, .slice none 0 0, .slice none 0 0, .bool false]) ?_ 1 _ rfl; (with_reducible repeat (first | refine blk_drewN ?_ _ | refine blk_drew ?_ | refine blk_alloc ?_ _)); refine blk_put (cs := #[.int .i64 0, .int .i64 0, .int .i64 0, .int .i64 0, .int .i64 0, .slice none 0 0, .slice none 0 0, .slice none 0 0, .bool false]) ?_ 0 _ rfl; (with_reducible repeat (first | refine blk_drewN ?_ _ | refine blk_drew ?_ | refine blk_alloc ?_ _)); exact BK229.out⟩
          have n2_ : Aside0 (Below w.heap.size w (((((((((w43.setCell ⟨gb229, 0, none⟩ (.int .i64 (wrap64 (bt b 0)))).setCell ⟨gb229, 1, none⟩ (.int .i64 (wrap64 (t227)))).setCell ⟨gb229, 2, none⟩ (.int .i64 (wrap64 (t228)))).setCell ⟨gb229, 3, none⟩ (.int .i64 0)).setCell ⟨gb229, 4, none⟩ (.int .i64 0)).setCell ⟨gb229, 5, none⟩ (.slice none 0 0)).setCell ⟨gb229, 6, none⟩ (.slice none 0 0)).setCell ⟨gb229, 7, none⟩ (.slice none 0 0)).setCell ⟨gb229, 8, none⟩ (.bool false))) := ⟨by repeat (first | (with_reducible first | exact HB.out | apply below_alloc | apply pw_below_drewN | apply below_drew1 | refine below_set ?_ GE224.out | refine below_set ?_ GE229.out) | exact HB.out)⟩
          (try clear BK224)
          (try clear BK229)
          (try clear HB)
          generalize (((((((((w43.setCell ⟨gb229, 0, none⟩ (.int .i64 (wrap64 (bt b 0)))).setCell ⟨gb229, 1, none⟩ (.int .i64 (wrap64 (t227)))).setCell ⟨gb229, 2, none⟩ (.int .i64 (wrap64 (t228)))).setCell ⟨gb229, 3, none⟩ (.int .i64 0)).setCell ⟨gb229, 4, none⟩ (.int .i64 0)).setCell ⟨gb229, 5, none⟩ (.slice none 0 0)).setCell ⟨gb229, 6, none⟩ (.slice none 0 0)).setCell ⟨gb229, 7, none⟩ (.slice none 0 0)).setCell ⟨gb229, 8, none⟩ (.bool false)) = w53 at n0_ n1_ n2_ ⊢
          have BK224 := n0_
          have BK229 := n1_
          have HB := n2_
          clear n0_ n1_ n2_
          have n0_ := Aside0.mk (blk_drew BK224.out)
          have n1_ := Aside0.mk (blk_drew BK229.out)
          have n2_ := Aside0.mk (below_drew1 HB.out)
          clear BK224
          clear BK229
          clear HB
          have BK224 := n0_
          have BK229 := n1_
          have HB := n2_
          clear n0_ n1_ n2_
          refine start_ (n := 12) (S := fun w' => True) (ds := []) #[false, false, false, false, false, false, false, false, false, false, false, false] (by kernel_rfl) rfl rfl trivial (fun hHeld => ?_); refine with_tabW tallystickref14_Take.tab12 tallystickref14_Take.bits12 (fun HT_ HW_ => ?_)
          generalize w53.drew = w54 at BK224 BK229 HB hHeld ⊢
          refine pure_ (i := 0) (N := some 59) (v := ?_) (a' := ?_) #[true, false, false, false, false, false, false, false, false, false, false, false] rfl rfl (any_of HT_.out (by kernel_rfl)) (fun _ _ _ h => h) (Or.inl ⟨by rfl, ?_⟩) ?_ ?_
          rotate_left
          · intro w'
            go_simp
            with_reducible rfl
          rotate_left
          · simp only [Act.put, List.setIfInBounds_toArray, List.set_cons_zero, List.set_cons_succ, i64_w, i32_w]
            rfl
          refine pure_ (i := 1) (N := some 60) (v := ?_) (a' := ?_) #[true, true, false, false, false, false, false, false, false, false, false, false] rfl rfl (any_of HT_.out (by kernel_rfl)) (fun _ _ _ h => h) (Or.inl ⟨by rfl, ?_⟩) ?_ ?_
          rotate_left
          · intro w'
            go_simp
            with_reducible rfl
          rotate_left
          · simp only [Act.put, List.setIfInBounds_toArray, List.set_cons_zero, List.set_cons_succ, i64_w, i32_w]
            rfl
          refine pure_ (i := 4) (N := some 63) (v := ?_) (a' := ?_) #[true, true, false, false, true, false, false, false, false, false, false, false] rfl rfl (any_of HT_.out (by kernel_rfl)) (fun _ _ _ h => h) (Or.inl ⟨by rfl, ?_⟩) ?_ ?_
          rotate_left
          · intro w'
            go_simp
            with_reducible rfl
          rotate_left
          · simp only [Act.put, List.setIfInBounds_toArray, List.set_cons_zero, List.set_cons_succ, i64_w, i32_w]
            rfl
          refine pure_ (i := 5) (N := some 64) (v := ?_) (a' := ?_) #[true, true, false, false, true, true, false, false, false, false, false, false] rfl rfl (any_of HT_.out (by kernel_rfl)) (fun _ _ _ h => h) (Or.inl ⟨by rfl, ?_⟩) ?_ ?_
          rotate_left
          · intro w'
            go_simp
            with_reducible rfl
          rotate_left
          · simp only [Act.put, List.setIfInBounds_toArray, List.set_cons_zero, List.set_cons_succ, i64_w, i32_w]
            rfl
          refine one_ (i := 2) (N := some 61) #[true, true, true, false, true, true, false, false, false, false, false, false] rfl rfl (one_of HT_.out (by kernel_rfl)) (by decide) (fun K hK => ?_)
          refine goes_ Tryd.func40 (by kernel_rfl) rfl #[.string (b.extract 9 13)] (by rfl) rfl rfl (by (try simp only [List.map_toArray, List.map_cons, List.map_nil]); first | done | (fail) | rfl | (simp only [List.length_drop, List.length_take]; rfl)) ?_
          with_reducible refine (tallystickref14_number.calls k (b.extract 9 13) t230 _ A32.out).mono ?_
          rintro e w' ⟨rfl, ⟨nd, rfl⟩⟩
          refine ⟨_, rfl, ?_⟩
          refine hK.out _ _ trivial (fun hHeld => ?_)
          clear hK K
          refine norm_ (a' := ?_) ?_ ?_
          rotate_left
          · show Act.put _ (some 61) _ = _
            simp only [Act.put, List.setIfInBounds_toArray, List.set_cons_zero, List.set_cons_succ, i64_w, i32_w]
            rfl
          refine pure_ (i := 3) (N := some 62) (v := ?_) (a' := ?_) #[true, true, true, true, true, true, false, false, false, false, false, false] rfl rfl (any_of HT_.out (by kernel_rfl)) (fun _ _ _ h => h) (Or.inl ⟨by rfl, ?_⟩) ?_ ?_
          rotate_left
          · intro w'
            go_simp
            with_reducible rfl
          rotate_left
          · simp only [Act.put, List.setIfInBounds_toArray, List.set_cons_zero, List.set_cons_succ, i64_w, i32_w]
            rfl
          refine one_ (i := 6) (N := some 65) #[true, true, true, true, true, true, true, false, false, false, false, false] rfl rfl (one_of HT_.out (by kernel_rfl)) (by decide) (fun K hK => ?_)
          refine goes_ Tryd.func40 (by kernel_rfl) rfl #[.string (b.extract 13 17)] (by rfl) rfl rfl (by (try simp only [List.map_toArray, List.map_cons, List.map_nil]); first | done | (fail) | rfl | (simp only [List.length_drop, List.length_take]; rfl)) ?_
          with_reducible refine (tallystickref14_number.calls k (b.extract 13 17) t231 _ A35.out).mono ?_
          rintro e w' ⟨rfl, ⟨nd, rfl⟩⟩
          refine ⟨_, rfl, ?_⟩
          refine hK.out _ _ trivial (fun hHeld => ?_)
          clear hK K
          refine norm_ (a' := ?_) ?_ ?_
          rotate_left
          · show Act.put _ (some 65) _ = _
            simp only [Act.put, List.setIfInBounds_toArray, List.set_cons_zero, List.set_cons_succ, i64_w, i32_w]
            rfl
          refine pure_ (i := 7) (N := some 66) (v := ?_) (a' := ?_) #[true, true, true, true, true, true, true, true, false, false, false, false] rfl rfl (any_of HT_.out (by kernel_rfl)) (fun _ _ _ h => h) (Or.inl ⟨by rfl, ?_⟩) ?_ ?_
          rotate_left
          · intro w'
            go_simp
            with_reducible rfl
          rotate_left
          · simp only [Act.put, List.setIfInBounds_toArray, List.set_cons_zero, List.set_cons_succ, i64_w, i32_w]
            rfl
          refine pure_ (i := 8) (N := some 67) (v := ?_) (a' := ?_) #[true, true, true, true, true, true, true, true, true, false, false, false] rfl rfl (any_of HT_.out (by kernel_rfl)) (fun _ _ _ h => h) (Or.inl ⟨by rfl, ?_⟩) ?_ ?_
          rotate_left
          · intro w'
            go_simp
            with_reducible rfl
          rotate_left
          · simp only [Act.put, List.setIfInBounds_toArray, List.set_cons_zero, List.set_cons_succ, i64_w, i32_w]
            rfl
          refine pure_ (i := 9) (N := some 68) (v := ?_) (a' := ?_) #[true, true, true, true, true, true, true, true, true, true, false, false] rfl rfl (any_of HT_.out (by kernel_rfl)) (fun _ _ _ h => h) (Or.inl ⟨by rfl, ?_⟩) ?_ ?_
          rotate_left
          · intro w'
            go_simp
            with_reducible rfl
          rotate_left
          · simp only [Act.put, List.setIfInBounds_toArray, List.set_cons_zero, List.set_cons_succ, i64_w, i32_w]
            rfl
          refine pure_ (i := 10) (N := some 69) (v := ?_) (a' := ?_) #[true, true, true, true, true, true, true, true, true, true, true, false] rfl rfl (any_of HT_.out (by kernel_rfl)) (fun _ _ _ h => h) (Or.inl ⟨by rfl, ?_⟩) ?_ ?_
          rotate_left
          · intro w'
            go_simp
            with_reducible rfl
          rotate_left
          · simp only [Act.put, List.setIfInBounds_toArray, List.set_cons_zero, List.set_cons_succ, i64_w, i32_w]
            rfl
          refine one_ (i := 11) (N := none) #[true, true, true, true, true, true, true, true, true, true, true, true] rfl rfl (one_of HT_.out (by kernel_rfl)) (by decide) (fun K hK => ?_)
          have hs55 : w54.cell? ⟨gb229, 3, none⟩ = some (.int .i64 0) := (blk_cell BK229.out 3).trans rfl
          have hfs55 := blk_frozen BK229.out 3
          have hns55_0 := NB224_229.out
          have hms55_0 := NB229_224.out
          have hs56 : w54.cell? ⟨gb229, 4, none⟩ = some (.int .i64 0) := (blk_cell BK229.out 4).trans rfl
          have hfs56 := blk_frozen BK229.out 4
          have hns56_0 := NB224_229.out
          have hms56_0 := NB229_224.out
          refine skip_ (w1 := ?_) (by rfl) rfl ?_ ?_
          rotate_left
          · go_simp
            rfl
          refine hK.out _ _ trivial (fun hHeld => ?_)
          clear hK K
          refine done_ (done_of HT_.out (by kernel_rfl)) ?_
          generalize hW5 : World.setCell (World.setCell (World.drewN w54 _) _ _) _ _ = W5
          have hz5 : W5.heap[gb224]? = some (.cells #[.int .i64 0, .int .i64 0, .int .i64 0, .int .i64 0, .int .i64 0, .slice none 0 0, .slice none 0 0, .slice none 0 0, .bool false] 63 (0, 0)) := by rw [← hW5]; exact blk_far (blk_far BK224.out (by exact NB224_229.out) _) (by exact NB224_229.out) _
          have hr5 : W5.heap[gb229]? = some (.cells #[.int .i64 (wrap64 (bt b 0)), .int .i64 (wrap64 t227), .int .i64 (wrap64 t228), .int .i64 (wrap64 t230), .int .i64 (wrap64 t231), .slice none 0 0, .slice none 0 0, .slice none 0 0, .bool false] 63 (0, 0)) := by rw [← hW5]; exact blk_put (blk_put BK229.out 3 _ rfl) 4 _ rfl
          have hb5 : Below w.heap.size w W5 := by rw [← hW5]; exact below_set (below_set (pw_below_drewN HB.out _) GE229.out) GE229.out
          have HZ5' := Lib.hid hz5
          have HR5 := Lib.hid hr5
          have HB5 := Lib.hid hb5
          clear hW5 hz5 hr5 hb5 hs55 hfs55 hns55_0 hms55_0 hs56 hfs56 hns56_0 hms56_0
          -- GENERATED (wip/gen_rt.py)
          have hx17 : ∀ h : 17 < b.size, ((b[17]'h).toNat : Int) = bt b 17 := bt_at b 17
          have qi17 : (17 < (b.size : Int)) = True := eq_true hj17'
          have q17 : (17 < b.size) = True := eq_true hjj17
          have hbt := bt_range b 17
          have hTB : takeRef s = if bt b 17 > 1 then (zeroRec, 6) else refRows (wrap64 (bt b 0)) (wrap64 t227) (wrap64 t228) (wrap64 t230) (wrap64 t231) (bt b 17 == 1) (b.extract 18 b.size) := by
            rw [HTK.out]; unfold refBody; rw [if_neg (by omega), HN27.out, HN28.out, HN30.out, HN31.out]
          have HTB := Lib.hid hTB
          clear hTB
          by_cases hc17 : 1 < bt b 17
          · have ht17 : decide (1 < bt b 17) = true := decide_eq_true hc17
            have HR := Lib.hid (show takeRef s = (zeroRec, 6) by rw [HTB.out, if_pos hc17])
            have hz0 := blk_cell HZ5'.out 0
            have hy0 := blk_frozen HZ5'.out 0
            have hz1 := blk_cell HZ5'.out 1
            have hy1 := blk_frozen HZ5'.out 1
            have hz2 := blk_cell HZ5'.out 2
            have hy2 := blk_frozen HZ5'.out 2
            have hz3 := blk_cell HZ5'.out 3
            have hy3 := blk_frozen HZ5'.out 3
            have hz4 := blk_cell HZ5'.out 4
            have hy4 := blk_frozen HZ5'.out 4
            have hz5 := blk_cell HZ5'.out 5
            have hy5 := blk_frozen HZ5'.out 5
            have hz6 := blk_cell HZ5'.out 6
            have hy6 := blk_frozen HZ5'.out 6
            have hz7 := blk_cell HZ5'.out 7
            have hy7 := blk_frozen HZ5'.out 7
            have hz8 := blk_cell HZ5'.out 8
            have hy8 := blk_frozen HZ5'.out 8
            simp only [List.getElem?_toArray, List.getElem?_cons_zero, List.getElem?_cons_succ] at hz0 hz1 hz2 hz3 hz4 hz5 hz6 hz7 hz8
            go_wp2
            refine bodyPost_ret (results_ct rfl _ _ gb224 63 #[.int .i64 0, .int .i64 0, .int .i64 0, .int .i64 0, .int .i64 0, .slice none 0 0, .slice none 0 0, .slice none 0 0, .bool false] (0, 0) _ rfl ?blk Tryd.underlying63 rfl (by kernel_rfl)) rfl ?_
            case blk => first | (with_reducible exact put9 _ _ _ _ _ _ _ _ _ HZ5'.out) | (trace_state; fail)
            rw [HR.out]
            exact ⟨none, 0, none, 0, none, 0, rfl, Kd.V_nil _ _ _ _ _, Kd.V_nil _ _ _ _ _, Kd.V_nil _ _ _ _ _, (put9_kp (fun k => k = gb224) rfl _ _ _ _ _ _ _ _ _).below HB5.out HB5.out.size (fun k h => by have := GE224.out; omega)⟩
          · have ht17 : decide (1 < bt b 17) = false := decide_eq_false hc17
            have HTC := Lib.hid (show takeRef s = _ from HTB.out.trans (if_neg hc17))
            clear hc17
            have hr8 := blk_cell HR5.out 8
            have hq8 := blk_frozen HR5.out 8
            go_wp2_with fail
            obtain ⟨W6, hW6⟩ : ∃ X, W5.setCell ⟨gb229, 8, none⟩ (.bool (bt b 17 == 1)) = X := ⟨_, rfl⟩
            rw [hW6]
            have HZ6' := Lib.hid (show W6.heap[gb224]? = some (.cells #[.int .i64 0, .int .i64 0, .int .i64 0, .int .i64 0, .int .i64 0, .slice none 0 0, .slice none 0 0, .slice none 0 0, .bool false] 63 (0, 0)) by rw [← hW6]; exact blk_far HZ5'.out (by exact NB224_229.out) _)
            have HR6 := Lib.hid (show W6.heap[gb229]? = some (.cells #[.int .i64 (wrap64 (bt b 0)), .int .i64 (wrap64 t227), .int .i64 (wrap64 t228), .int .i64 (wrap64 t230), .int .i64 (wrap64 t231), .slice none 0 0, .slice none 0 0, .slice none 0 0, .bool (bt b 17 == 1)] 63 (0, 0)) by rw [← hW6]; exact blk_put HR5.out 8 _ rfl)
            have HB6 := Lib.hid (show Below w.heap.size w W6 by rw [← hW6]; exact below_set HB5.out GE229.out)
            clear hW6 hr8 hq8 hx17 qi17 q17 hbt HZ5' HR5 HB5
            refine (rowR_calls _ (by simp; omega) _).mono ?_
            obtain ⟨⟨P, s1, e1⟩, hT⟩ : ∃ p, rowR (b.extract 18 b.size) = p := ⟨_, rfl⟩
            have hsz1 := rowR_size (b.extract 18 b.size)
            rw [hT] at hsz1
            rw [hT]
            dsimp only at hsz1 ⊢
            rintro en W7 ⟨AP, kP, rfl, hV, hb⟩
            have HT1 := Lib.hid hT
            have HZ7' := Lib.hid (blk_below HZ6'.out hb)
            have HR7 := Lib.hid (blk_below HR6.out hb)
            have HB7 := Lib.hid (below_step HB6.out hb)
            have HSW6 := Lib.hid (show gb229 + 1 ≤ W6.heap.size from blk_lt HR6.out)
            have HVP7 := Lib.hid (Kd.V_mono hV (fun k h => Nat.le_trans HSW6.out h))
            clear hT hV hb HZ6' HR6 HB6 HSW6
            have hlt1 : s1.size < 9223372036854775807 := by have h1 := hsz1; simp at h1; omega
            by_cases hc : e1 = 0
            rotate_left
            · have hct : (e1 != 0) = true := by rw [bne_iff_ne]; exact hc
              have HR := Lib.hid (show takeRef s = (zeroRec, e1) by rw [HTC.out]; unfold refRows; simp only [HT1.out]; rw [if_pos hc])
              have hz0 := blk_cell HZ7'.out 0
              have hy0 := blk_frozen HZ7'.out 0
              have hz1 := blk_cell HZ7'.out 1
              have hy1 := blk_frozen HZ7'.out 1
              have hz2 := blk_cell HZ7'.out 2
              have hy2 := blk_frozen HZ7'.out 2
              have hz3 := blk_cell HZ7'.out 3
              have hy3 := blk_frozen HZ7'.out 3
              have hz4 := blk_cell HZ7'.out 4
              have hy4 := blk_frozen HZ7'.out 4
              have hz5 := blk_cell HZ7'.out 5
              have hy5 := blk_frozen HZ7'.out 5
              have hz6 := blk_cell HZ7'.out 6
              have hy6 := blk_frozen HZ7'.out 6
              have hz7 := blk_cell HZ7'.out 7
              have hy7 := blk_frozen HZ7'.out 7
              have hz8 := blk_cell HZ7'.out 8
              have hy8 := blk_frozen HZ7'.out 8
              simp only [List.getElem?_toArray, List.getElem?_cons_zero, List.getElem?_cons_succ] at hz0 hz1 hz2 hz3 hz4 hz5 hz6 hz7 hz8
              go_wp2
              refine bodyPost_ret (results_ct rfl _ _ gb224 63 #[.int .i64 0, .int .i64 0, .int .i64 0, .int .i64 0, .int .i64 0, .slice none 0 0, .slice none 0 0, .slice none 0 0, .bool false] (0, 0) _ rfl ?blk Tryd.underlying63 rfl (by kernel_rfl)) rfl ?_
              case blk => first | (with_reducible exact put9 _ _ _ _ _ _ _ _ _ HZ7'.out) | (trace_state; fail)
              rw [HR.out]
              exact ⟨none, 0, none, 0, none, 0, rfl, Kd.V_nil _ _ _ _ _, Kd.V_nil _ _ _ _ _, Kd.V_nil _ _ _ _ _, (put9_kp (fun k => k = gb224) rfl _ _ _ _ _ _ _ _ _).below HB7.out HB7.out.size (fun k h => by have := GE224.out; omega)⟩
            have hct : (e1 != 0) = false := bne_eq_false_iff_eq.mpr hc
            have HE1 := Lib.hid hc
            clear hc
            go_wp2_with fail
            refine (rowR_calls _ hlt1 _).mono ?_
            obtain ⟨⟨Q, s2, e2⟩, hT⟩ : ∃ p, rowR s1 = p := ⟨_, rfl⟩
            have hsz2 := rowR_size s1
            rw [hT] at hsz2
            rw [hT]
            dsimp only at hsz2 ⊢
            rintro en W8 ⟨AQ, kQ, rfl, hV, hb⟩
            have HT2 := Lib.hid hT
            have HZ8' := Lib.hid (blk_below HZ7'.out hb)
            have HR8 := Lib.hid (blk_below HR7.out hb)
            have HB8 := Lib.hid (below_step HB7.out hb)
            have HSW7 := Lib.hid (show gb229 + 1 ≤ W7.heap.size from blk_lt HR7.out)
            have HVP8 := Lib.hid (V_below' (b' := 0) HVP7.out hb)
            clear HVP7
            have HVQ8 := Lib.hid (Kd.V_mono hV (fun k h => Nat.le_trans HSW7.out h))
            clear hT hV hb HZ7' HR7 HB7 HSW7
            have hlt2 : s2.size < 9223372036854775807 := by have h1 := hsz2; omega
            by_cases hc : e2 = 0
            rotate_left
            · have hct : (e2 != 0) = true := by rw [bne_iff_ne]; exact hc
              have HR := Lib.hid (show takeRef s = (zeroRec, e2) by rw [HTC.out]; unfold refRows; simp only [HT1.out, HT2.out]; rw [if_neg (fun h => h HE1.out), if_pos hc])
              have hz0 := blk_cell HZ8'.out 0
              have hy0 := blk_frozen HZ8'.out 0
              have hz1 := blk_cell HZ8'.out 1
              have hy1 := blk_frozen HZ8'.out 1
              have hz2 := blk_cell HZ8'.out 2
              have hy2 := blk_frozen HZ8'.out 2
              have hz3 := blk_cell HZ8'.out 3
              have hy3 := blk_frozen HZ8'.out 3
              have hz4 := blk_cell HZ8'.out 4
              have hy4 := blk_frozen HZ8'.out 4
              have hz5 := blk_cell HZ8'.out 5
              have hy5 := blk_frozen HZ8'.out 5
              have hz6 := blk_cell HZ8'.out 6
              have hy6 := blk_frozen HZ8'.out 6
              have hz7 := blk_cell HZ8'.out 7
              have hy7 := blk_frozen HZ8'.out 7
              have hz8 := blk_cell HZ8'.out 8
              have hy8 := blk_frozen HZ8'.out 8
              simp only [List.getElem?_toArray, List.getElem?_cons_zero, List.getElem?_cons_succ] at hz0 hz1 hz2 hz3 hz4 hz5 hz6 hz7 hz8
              go_wp2
              refine bodyPost_ret (results_ct rfl _ _ gb224 63 #[.int .i64 0, .int .i64 0, .int .i64 0, .int .i64 0, .int .i64 0, .slice none 0 0, .slice none 0 0, .slice none 0 0, .bool false] (0, 0) _ rfl ?blk Tryd.underlying63 rfl (by kernel_rfl)) rfl ?_
              case blk => first | (with_reducible exact put9 _ _ _ _ _ _ _ _ _ HZ8'.out) | (trace_state; fail)
              rw [HR.out]
              exact ⟨none, 0, none, 0, none, 0, rfl, Kd.V_nil _ _ _ _ _, Kd.V_nil _ _ _ _ _, Kd.V_nil _ _ _ _ _, (put9_kp (fun k => k = gb224) rfl _ _ _ _ _ _ _ _ _).below HB8.out HB8.out.size (fun k h => by have := GE224.out; omega)⟩
            have hct : (e2 != 0) = false := bne_eq_false_iff_eq.mpr hc
            have HE2 := Lib.hid hc
            clear hc
            go_wp2_with fail
            refine (rowR_calls _ hlt2 _).mono ?_
            obtain ⟨⟨R, s3, e3⟩, hT⟩ : ∃ p, rowR s2 = p := ⟨_, rfl⟩
            have hsz3 := rowR_size s2
            rw [hT] at hsz3
            rw [hT]
            dsimp only at hsz3 ⊢
            rintro en W9 ⟨AR, kR, rfl, hV, hb⟩
            have HT3 := Lib.hid hT
            have HZ9' := Lib.hid (blk_below HZ8'.out hb)
            have HR9 := Lib.hid (blk_below HR8.out hb)
            have HB9 := Lib.hid (below_step HB8.out hb)
            have HSW8 := Lib.hid (show gb229 + 1 ≤ W8.heap.size from blk_lt HR8.out)
            have HVP9 := Lib.hid (V_below' (b' := 0) HVP8.out hb)
            clear HVP8
            have HVQ9 := Lib.hid (V_below' (b' := 0) HVQ8.out hb)
            clear HVQ8
            have HVR9 := Lib.hid (Kd.V_mono hV (fun k h => Nat.le_trans HSW8.out h))
            clear hT hV hb HZ8' HR8 HB8 HSW8
            have hlt3 : s3.size < 9223372036854775807 := by have h1 := hsz3; omega
            by_cases hc : e3 = 0
            rotate_left
            · have hct : (e3 != 0) = true := by rw [bne_iff_ne]; exact hc
              have HR := Lib.hid (show takeRef s = (zeroRec, e3) by rw [HTC.out]; unfold refRows; simp only [HT1.out, HT2.out, HT3.out]; rw [if_neg (fun h => h HE1.out), if_neg (fun h => h HE2.out), if_pos hc])
              have hz0 := blk_cell HZ9'.out 0
              have hy0 := blk_frozen HZ9'.out 0
              have hz1 := blk_cell HZ9'.out 1
              have hy1 := blk_frozen HZ9'.out 1
              have hz2 := blk_cell HZ9'.out 2
              have hy2 := blk_frozen HZ9'.out 2
              have hz3 := blk_cell HZ9'.out 3
              have hy3 := blk_frozen HZ9'.out 3
              have hz4 := blk_cell HZ9'.out 4
              have hy4 := blk_frozen HZ9'.out 4
              have hz5 := blk_cell HZ9'.out 5
              have hy5 := blk_frozen HZ9'.out 5
              have hz6 := blk_cell HZ9'.out 6
              have hy6 := blk_frozen HZ9'.out 6
              have hz7 := blk_cell HZ9'.out 7
              have hy7 := blk_frozen HZ9'.out 7
              have hz8 := blk_cell HZ9'.out 8
              have hy8 := blk_frozen HZ9'.out 8
              simp only [List.getElem?_toArray, List.getElem?_cons_zero, List.getElem?_cons_succ] at hz0 hz1 hz2 hz3 hz4 hz5 hz6 hz7 hz8
              go_wp2
              refine bodyPost_ret (results_ct rfl _ _ gb224 63 #[.int .i64 0, .int .i64 0, .int .i64 0, .int .i64 0, .int .i64 0, .slice none 0 0, .slice none 0 0, .slice none 0 0, .bool false] (0, 0) _ rfl ?blk Tryd.underlying63 rfl (by kernel_rfl)) rfl ?_
              case blk => first | (with_reducible exact put9 _ _ _ _ _ _ _ _ _ HZ9'.out) | (trace_state; fail)
              rw [HR.out]
              exact ⟨none, 0, none, 0, none, 0, rfl, Kd.V_nil _ _ _ _ _, Kd.V_nil _ _ _ _ _, Kd.V_nil _ _ _ _ _, (put9_kp (fun k => k = gb224) rfl _ _ _ _ _ _ _ _ _).below HB9.out HB9.out.size (fun k h => by have := GE224.out; omega)⟩
            have hct : (e3 != 0) = false := bne_eq_false_iff_eq.mpr hc
            have HE3 := Lib.hid hc
            clear hc
            have hTE : takeRef s = refEnd (wrap64 (bt b 0)) (wrap64 t227) (wrap64 t228) (wrap64 t230) (wrap64 t231) (bt b 17 == 1) P Q R s3 := by
              rw [HTC.out]; unfold refRows; simp only [HT1.out, HT2.out, HT3.out]; rw [if_neg (fun h => h HE1.out), if_neg (fun h => h HE2.out), if_neg (fun h => h HE3.out)]
            have HTE := Lib.hid hTE
            clear hTE
            by_cases hl : 0 < s3.size
            · have htl : decide (0 < s3.size) = true := by simp; omega
              have HR := Lib.hid (show takeRef s = (zeroRec, 6) by rw [HTE.out]; unfold refEnd; rw [if_pos hl])
              have hz0 := blk_cell HZ9'.out 0
              have hy0 := blk_frozen HZ9'.out 0
              have hz1 := blk_cell HZ9'.out 1
              have hy1 := blk_frozen HZ9'.out 1
              have hz2 := blk_cell HZ9'.out 2
              have hy2 := blk_frozen HZ9'.out 2
              have hz3 := blk_cell HZ9'.out 3
              have hy3 := blk_frozen HZ9'.out 3
              have hz4 := blk_cell HZ9'.out 4
              have hy4 := blk_frozen HZ9'.out 4
              have hz5 := blk_cell HZ9'.out 5
              have hy5 := blk_frozen HZ9'.out 5
              have hz6 := blk_cell HZ9'.out 6
              have hy6 := blk_frozen HZ9'.out 6
              have hz7 := blk_cell HZ9'.out 7
              have hy7 := blk_frozen HZ9'.out 7
              have hz8 := blk_cell HZ9'.out 8
              have hy8 := blk_frozen HZ9'.out 8
              simp only [List.getElem?_toArray, List.getElem?_cons_zero, List.getElem?_cons_succ] at hz0 hz1 hz2 hz3 hz4 hz5 hz6 hz7 hz8
              go_wp2
              refine bodyPost_ret (results_ct rfl _ _ gb224 63 #[.int .i64 0, .int .i64 0, .int .i64 0, .int .i64 0, .int .i64 0, .slice none 0 0, .slice none 0 0, .slice none 0 0, .bool false] (0, 0) _ rfl ?blk Tryd.underlying63 rfl (by kernel_rfl)) rfl ?_
              case blk => first | (with_reducible exact put9 _ _ _ _ _ _ _ _ _ HZ9'.out) | (trace_state; fail)
              rw [HR.out]
              exact ⟨none, 0, none, 0, none, 0, rfl, Kd.V_nil _ _ _ _ _, Kd.V_nil _ _ _ _ _, Kd.V_nil _ _ _ _ _, (put9_kp (fun k => k = gb224) rfl _ _ _ _ _ _ _ _ _).below HB9.out HB9.out.size (fun k h => by have := GE224.out; omega)⟩
            have htl : decide (0 < s3.size) = false := decide_eq_false hl
            have HTF := Lib.hid (show takeRef s = if mayF (wrap64 (bt b 0)) (wrap64 t227) (wrap64 t228) (wrap64 t230) (wrap64 t231) P Q R = true then ((wrap64 (bt b 0), wrap64 t227, wrap64 t228, wrap64 t230, wrap64 t231, P, Q, R, bt b 17 == 1), 0) else (zeroRec, 1) by rw [HTE.out]; unfold refEnd; rw [if_neg hl])
            clear hl
            have hr0 := blk_cell HR9.out 0
            have hr1 := blk_cell HR9.out 1
            have hr2 := blk_cell HR9.out 2
            have hr3 := blk_cell HR9.out 3
            have hr4 := blk_cell HR9.out 4
            have hr5 := blk_cell HR9.out 5
            have hr6 := blk_cell HR9.out 6
            have hr7 := blk_cell HR9.out 7
            have hr8 := blk_cell HR9.out 8
            have hq5 := blk_frozen HR9.out 5
            have hq6 := blk_frozen HR9.out 6
            have hq7 := blk_frozen HR9.out 7
            simp only [List.getElem?_toArray, List.getElem?_cons_zero, List.getElem?_cons_succ] at hr0 hr1 hr2 hr3 hr4 hr5 hr6 hr7 hr8
            go_wp2_with fail
            obtain ⟨W10, hW10⟩ : ∃ X, ((W9.setCell ⟨gb229, 5, none⟩ (.slice AP P.length kP)).setCell ⟨gb229, 6, none⟩ (.slice AQ Q.length kQ)).setCell ⟨gb229, 7, none⟩ (.slice AR R.length kR) = X := ⟨_, rfl⟩
            rw [hW10]
            have HZ10' := Lib.hid (show W10.heap[gb224]? = some (.cells #[.int .i64 0, .int .i64 0, .int .i64 0, .int .i64 0, .int .i64 0, .slice none 0 0, .slice none 0 0, .slice none 0 0, .bool false] 63 (0, 0)) by rw [← hW10]; exact blk_far (blk_far (blk_far HZ9'.out (by exact NB224_229.out) _) (by exact NB224_229.out) _) (by exact NB224_229.out) _)
            have hR10 : W10.heap[gb229]? = some (.cells #[.int .i64 (wrap64 (bt b 0)), .int .i64 (wrap64 t227), .int .i64 (wrap64 t228), .int .i64 (wrap64 t230), .int .i64 (wrap64 t231), .slice AP P.length kP, .slice AQ Q.length kQ, .slice AR R.length kR, .bool (bt b 17 == 1)] 63 (0, 0)) := by
              rw [← hW10]
              refine blk_put (cs := #[.int .i64 (wrap64 (bt b 0)), .int .i64 (wrap64 t227), .int .i64 (wrap64 t228), .int .i64 (wrap64 t230), .int .i64 (wrap64 t231), .slice AP P.length kP, .slice AQ Q.length kQ, .slice none 0 0, .bool (bt b 17 == 1)]) ?_ 7 _ rfl
              refine blk_put (cs := #[.int .i64 (wrap64 (bt b 0)), .int .i64 (wrap64 t227), .int .i64 (wrap64 t228), .int .i64 (wrap64 t230), .int .i64 (wrap64 t231), .slice AP P.length kP, .slice none 0 0, .slice none 0 0, .bool (bt b 17 == 1)]) ?_ 6 _ rfl
              exact blk_put HR9.out 5 _ rfl
            have HR10 := Lib.hid hR10
            have HB10 := Lib.hid (show Below w.heap.size w W10 by rw [← hW10]; exact below_set (below_set (below_set HB9.out GE229.out) GE229.out) GE229.out)
            clear hR10 hr0 hr1 hr2 hr3 hr4 hr5 hr6 hr7 hr8 hq5 hq6 hq7
            have HVP10 := Lib.hid (show Kd.V (Kd.int .u64) 79 W10 0 (fun k => gb229 + 1 ≤ k) (.slice AP P.length kP) P by rw [← hW10]; exact V_set (b := 0) (V_set (b := 0) (V_set (b := 0) HVP9.out (Nat.lt_succ_self _)) (Nat.lt_succ_self _)) (Nat.lt_succ_self _))
            have HVQ10 := Lib.hid (show Kd.V (Kd.int .u64) 79 W10 0 (fun k => gb229 + 1 ≤ k) (.slice AQ Q.length kQ) Q by rw [← hW10]; exact V_set (b := 0) (V_set (b := 0) (V_set (b := 0) HVQ9.out (Nat.lt_succ_self _)) (Nat.lt_succ_self _)) (Nat.lt_succ_self _))
            have HVR10 := Lib.hid (show Kd.V (Kd.int .u64) 79 W10 0 (fun k => gb229 + 1 ≤ k) (.slice AR R.length kR) R by rw [← hW10]; exact V_set (b := 0) (V_set (b := 0) (V_set (b := 0) HVR9.out (Nat.lt_succ_self _)) (Nat.lt_succ_self _)) (Nat.lt_succ_self _))
            have hRP := Kd.V_reads' HVP10.out
            have hRQ := Kd.V_reads' HVQ10.out
            have hRR := Kd.V_reads' HVR10.out
            have hlP : P.length < 9223372036854775807 := by have h1 := rowR_len (b.extract 18 b.size); rw [HT1.out] at h1; have h2 : P.length ≤ 4097 := h1; omega
            have hlQ : Q.length < 9223372036854775807 := by have h1 := rowR_len s1; rw [HT2.out] at h1; have h2 : Q.length ≤ 4097 := h1; omega
            have hlR : R.length < 9223372036854775807 := by have h1 := rowR_len s2; rw [HT3.out] at h1; have h2 : R.length ≤ 4097 := h1; omega
            refine (tallystickref14_May.calls _ _ _ _ _ AP kP P AQ kQ Q AR kR R _ _ _ hRP.2.2 hRP.2.1 hRQ.2.2 hRQ.2.1 hRR.2.2 hRR.2.1 (may_ref _ _ _ _ _ P Q R _ hlP hlQ hlR)).mono ?_
            obtain ⟨M, hM⟩ : ∃ M, mayF (wrap64 (bt b 0)) (wrap64 t227) (wrap64 t228) (wrap64 t230) (wrap64 t231) P Q R = M := ⟨_, rfl⟩
            rw [hM]
            rintro en W11 ⟨rfl, hb⟩
            have HM := Lib.hid hM
            have HZ11' := Lib.hid (blk_below HZ10'.out hb)
            have HR11 := Lib.hid (blk_below HR10.out hb)
            have HB11 := Lib.hid (below_step HB10.out hb)
            have HVP11 := Lib.hid (V_below' (b' := 0) HVP10.out hb)
            have HVQ11 := Lib.hid (V_below' (b' := 0) HVQ10.out hb)
            have HVR11 := Lib.hid (V_below' (b' := 0) HVR10.out hb)
            clear hM hb hW10 hRP hRQ hRR hlP hlQ hlR HVP10 HVQ10 HVR10 HZ10' HR10 HB10 HVP9 HVQ9 HVR9 HZ9' HR9 HB9
            cases M with
            | false =>
              have HR := Lib.hid (show takeRef s = (zeroRec, 1) by rw [HTF.out, HM.out]; rfl)
              have hz0 := blk_cell HZ11'.out 0
              have hy0 := blk_frozen HZ11'.out 0
              have hz1 := blk_cell HZ11'.out 1
              have hy1 := blk_frozen HZ11'.out 1
              have hz2 := blk_cell HZ11'.out 2
              have hy2 := blk_frozen HZ11'.out 2
              have hz3 := blk_cell HZ11'.out 3
              have hy3 := blk_frozen HZ11'.out 3
              have hz4 := blk_cell HZ11'.out 4
              have hy4 := blk_frozen HZ11'.out 4
              have hz5 := blk_cell HZ11'.out 5
              have hy5 := blk_frozen HZ11'.out 5
              have hz6 := blk_cell HZ11'.out 6
              have hy6 := blk_frozen HZ11'.out 6
              have hz7 := blk_cell HZ11'.out 7
              have hy7 := blk_frozen HZ11'.out 7
              have hz8 := blk_cell HZ11'.out 8
              have hy8 := blk_frozen HZ11'.out 8
              simp only [List.getElem?_toArray, List.getElem?_cons_zero, List.getElem?_cons_succ] at hz0 hz1 hz2 hz3 hz4 hz5 hz6 hz7 hz8
              go_wp2
              refine bodyPost_ret (results_ct rfl _ _ gb224 63 #[.int .i64 0, .int .i64 0, .int .i64 0, .int .i64 0, .int .i64 0, .slice none 0 0, .slice none 0 0, .slice none 0 0, .bool false] (0, 0) _ rfl ?blk Tryd.underlying63 rfl (by kernel_rfl)) rfl ?_
              case blk => first | (with_reducible exact put9 _ _ _ _ _ _ _ _ _ HZ11'.out) | (trace_state; fail)
              rw [HR.out]
              exact ⟨none, 0, none, 0, none, 0, rfl, Kd.V_nil _ _ _ _ _, Kd.V_nil _ _ _ _ _, Kd.V_nil _ _ _ _ _, (put9_kp (fun k => k = gb224) rfl _ _ _ _ _ _ _ _ _).below HB11.out HB11.out.size (fun k h => by have := GE224.out; omega)⟩
            | true =>
              have HR := Lib.hid (show takeRef s = ((wrap64 (bt b 0), wrap64 t227, wrap64 t228, wrap64 t230, wrap64 t231, P, Q, R, bt b 17 == 1), 0) by rw [HTF.out, HM.out]; rfl)
              have hz0 := blk_cell HZ11'.out 0
              have hy0 := blk_frozen HZ11'.out 0
              have hr0 := blk_cell HR11.out 0
              have hz1 := blk_cell HZ11'.out 1
              have hy1 := blk_frozen HZ11'.out 1
              have hr1 := blk_cell HR11.out 1
              have hz2 := blk_cell HZ11'.out 2
              have hy2 := blk_frozen HZ11'.out 2
              have hr2 := blk_cell HR11.out 2
              have hz3 := blk_cell HZ11'.out 3
              have hy3 := blk_frozen HZ11'.out 3
              have hr3 := blk_cell HR11.out 3
              have hz4 := blk_cell HZ11'.out 4
              have hy4 := blk_frozen HZ11'.out 4
              have hr4 := blk_cell HR11.out 4
              have hz5 := blk_cell HZ11'.out 5
              have hy5 := blk_frozen HZ11'.out 5
              have hr5 := blk_cell HR11.out 5
              have hz6 := blk_cell HZ11'.out 6
              have hy6 := blk_frozen HZ11'.out 6
              have hr6 := blk_cell HR11.out 6
              have hz7 := blk_cell HZ11'.out 7
              have hy7 := blk_frozen HZ11'.out 7
              have hr7 := blk_cell HR11.out 7
              have hz8 := blk_cell HZ11'.out 8
              have hy8 := blk_frozen HZ11'.out 8
              have hr8 := blk_cell HR11.out 8
              simp only [List.getElem?_toArray, List.getElem?_cons_zero, List.getElem?_cons_succ] at hz0 hr0 hz1 hr1 hz2 hr2 hz3 hr3 hz4 hr4 hz5 hr5 hz6 hr6 hz7 hr7 hz8 hr8
              go_wp2
              refine bodyPost_ret (results_ct rfl _ _ gb224 63 #[.int .i64 (wrap64 (bt b 0)), .int .i64 (wrap64 t227), .int .i64 (wrap64 t228), .int .i64 (wrap64 t230), .int .i64 (wrap64 t231), .slice AP P.length kP, .slice AQ Q.length kQ, .slice AR R.length kR, .bool (bt b 17 == 1)] (0, 0) _ rfl ?blk Tryd.underlying63 rfl (by kernel_rfl)) rfl ?_
              case blk => first | (with_reducible exact put9 _ _ _ _ _ _ _ _ _ HZ11'.out) | (trace_state; fail)
              rw [HR.out]
              have hk : Kp (fun k => k = gb224) W11 _ := put9_kp (fun k => k = gb224) (W := W11) (g := gb224) rfl (.int .i64 (wrap64 (bt b 0))) (.int .i64 (wrap64 t227)) (.int .i64 (wrap64 t228)) (.int .i64 (wrap64 t230)) (.int .i64 (wrap64 t231)) (.slice AP P.length kP) (.slice AQ Q.length kQ) (.slice AR R.length kR) (.bool (bt b 17 == 1))
              have hg1 := GE224.out
              have hg2 := GE229.out
              have hg3 := HGB.out
              exact ⟨AP, kP, AQ, kQ, AR, kR, rfl, Kd.V_mono (V_kp (b' := 0) HVP11.out hk (fun k h => by omega)) (fun k h => by omega), Kd.V_mono (V_kp (b' := 0) HVQ11.out hk (fun k h => by omega)) (fun k h => by omega), Kd.V_mono (V_kp (b' := 0) HVR11.out hk (fun k h => by omega)) (fun k h => by omega), hk.below HB11.out HB11.out.size (fun k h => by omega)⟩
      · have hmb : ((s.extract 0 4).toList == [84, 65, 76, 89]) = false := beq_eq_false_iff_ne.mpr hm
        have hR : takeRef s = (zeroRec, 6) := by unfold takeRef; rw [if_neg h8, HNS.out, if_neg (fun h => h HQ.out), if_pos hm]
        have HR := Lib.hid hR
        clear hm hR
        go_wp2
        refine bodyPost_ret (results_ct rfl _ _ w.heap.size 63 #[.int .i64 0, .int .i64 0, .int .i64 0, .int .i64 0, .int .i64 0, .slice none 0 0, .slice none 0 0, .slice none 0 0, .bool false] (0, 0) _ rfl ?blk Tryd.underlying63 rfl (by kernel_rfl)) rfl ?_
        case blk => first | (with_reducible exact put9 _ _ _ _ _ _ _ _ _ HBZ.out) | (trace_state; fail)
        rw [HR.out]
        exact ⟨none, 0, none, 0, none, 0, rfl, Kd.V_nil _ _ _ _ _, Kd.V_nil _ _ _ _ _, Kd.V_nil _ _ _ _ _, (put9_kp (fun k => k = w.heap.size) rfl _ _ _ _ _ _ _ _ _).below HB0.out HB0.out.size (fun k h => by omega)⟩
    · have hb : (numF (s.extract n s.size) != sumF (s.extract 0 n)) = true := by rw [bne_iff_ne]; exact hq
      rw [hb]
      have hR : takeRef s = (zeroRec, 7) := by unfold takeRef; rw [if_neg h8, HNS.out, if_pos hq]
      have HR := Lib.hid hR
      clear hq hb hR
      go_wp2
      refine bodyPost_ret (results_ct rfl _ _ w.heap.size 63 #[.int .i64 0, .int .i64 0, .int .i64 0, .int .i64 0, .int .i64 0, .slice none 0 0, .slice none 0 0, .slice none 0 0, .bool false] (0, 0) _ rfl ?blk Tryd.underlying63 rfl (by kernel_rfl)) rfl ?_
      case blk => first | (with_reducible exact put9 _ _ _ _ _ _ _ _ _ HBZ.out) | (trace_state; fail)
      rw [HR.out]
      exact ⟨none, 0, none, 0, none, 0, rfl, Kd.V_nil _ _ _ _ _, Kd.V_nil _ _ _ _ _, Kd.V_nil _ _ _ _ _, (put9_kp (fun k => k = w.heap.size) rfl _ _ _ _ _ _ _ _ _).below HB0.out HB0.out.size (fun k h => by omega)⟩
/-- The document's Take, as the printed texts take it. -/
def tallystickref14_Take.f (a0 : ByteArray) : Option (Int × Int × Int × Int × Int × List Int × List Int × List Int × Bool × Int) :=
  if a0.size < 9223372036854775807 then some ((takeRef a0).1.1, (takeRef a0).1.2.1, (takeRef a0).1.2.2.1, (takeRef a0).1.2.2.2.1, (takeRef a0).1.2.2.2.2.1, (takeRef a0).1.2.2.2.2.2.1, (takeRef a0).1.2.2.2.2.2.2.1, (takeRef a0).1.2.2.2.2.2.2.2.1, (takeRef a0).1.2.2.2.2.2.2.2.2, (takeRef a0).2) else none
theorem tallystickref14_Take.calls (a0 : ByteArray) (r1 : Int) (r2 : Int) (r3 : Int) (r4 : Int) (r5 : Int) (r6 : List Int) (r7 : List Int) (r8 : List Int) (r9 : Bool) (r10 : Int) (w : World) (h : tallystickref14_Take.f a0 = some (r1, r2, r3, r4, r5, r6, r7, r8, r9, r10)) :
    Calls Tryd.prog 26 #[.string a0] w fun e w' => ∃ v5_ v6_ v7_ : Value, e = .returned (.tuple #[.agg #[.int .i64 r1, .int .i64 r2, .int .i64 r3, .int .i64 r4, .int .i64 r5, v5_, v6_, v7_, .bool r9], .int .i64 r10]) ∧ Kd.V (Kd.int .u64) 79 w' w.heap.size (fun k_ => (w.heap.size ≤ k_)) v5_ r6 ∧ Kd.V (Kd.int .u64) 79 w' w.heap.size (fun k_ => (w.heap.size ≤ k_)) v6_ r7 ∧ Kd.V (Kd.int .u64) 79 w' w.heap.size (fun k_ => (w.heap.size ≤ k_)) v7_ r8 ∧ Below w.heap.size w w' := by
  unfold tallystickref14_Take.f at h
  split at h
  · rename_i hs
    simp only [Option.some.injEq, Prod.mk.injEq] at h
    obtain ⟨rfl, rfl, rfl, rfl, rfl, rfl, rfl, rfl, rfl, rfl⟩ := h
    refine (take_ref a0 hs w).mono ?_
    rintro e w' ⟨AP, kP, AQ, kQ, AT, kT, rfl, h1, h2, h3, hb⟩
    exact ⟨_, _, _, rfl, h1, h2, h3, hb⟩
  · cases h
end Go.Proofs.YtbpobnlkfpjijaaDoorR.Pr
end
-- Te
section
namespace Go.Proofs.YtbpobnlkfpjijaaDoorR.Pr
open Go.RowKit Go.Proofs.YtbpobnlkfpjijaaDoorRW.PrintWords Go.Proofs.YtbpobnlkfpjijaaDoorRW.PrintLast Go.Proofs.YtbpobnlkfpjijaaDoorRW.PrintMore
set_option linter.unusedVariables false
set_option linter.unusedSimpArgs false
/-- One row read by both ways. -/
def RowAg (a : List Int × ByteArray × Option Int) (b : List Int × ByteArray × Int) : Prop := match a.2.2 with
  | none => b = (a.1, a.2.1, 0)
  | some e => b.2.2 = e ∧ e ≠ 0
theorem rowL_agree : ∀ (d : Nat) (s : ByteArray) (xs : List Int), xs.length + d ≤ 4096 → RowAg (rowEnd (rowL d s xs)) (rowRL d s xs)
  | 0, s, xs, h => by
    unfold rowL rowRL
    cases hz : lastZero xs with
    | true =>
      rw [rowEnd_bad hz, if_neg (by simp [ordB, hz])]
      exact ⟨rfl, by decide⟩
    | false =>
      rw [rowEnd_good hz, if_pos (by simp [ordB, hz]; omega)]
      exact rfl
  | d + 1, s, xs, h => by
    unfold rowL rowRL
    by_cases h8 : 8 ≤ s.size
    · rw [if_pos h8, if_neg (by omega)]
      exact rowL_agree d _ _ (by simp; omega)
    · rw [if_neg h8, if_pos (by omega)]
      exact ⟨rfl, by decide⟩
theorem row_agree (s : ByteArray) : RowAg (rowF s) (rowR s) := by
  unfold rowF rowR
  by_cases h4 : s.size < 4
  · rw [if_pos h4, if_pos h4]
    exact ⟨rfl, by decide⟩
  · rw [if_neg h4, if_neg h4]
    by_cases hn : numF (s.extract 0 4) > 4096
    · rw [if_pos hn, if_pos hn]
      exact ⟨rfl, by decide⟩
    · rw [if_neg hn, if_neg hn]
      exact rowL_agree _ _ _ (by simp; omega)
/-- What crc.parts answers, behind its rows. -/
def finF (c d g f u : Int) (m : Bool) (P Q R : List Int) (s : ByteArray) (e : Option Int) : RecT × Option Int :=
  ((c, d, g, f, u, P, Q, R, m), if mayF c d g f u P Q R = true then (if s.size = 0 then e else oddS 6 e) else oddS 1 (if s.size = 0 then e else oddS 6 e))
def row3 (c d g f u : Int) (m : Bool) (P Q : List Int) (x : List Int × ByteArray × Option Int) : RecT × Option Int := finF c d g f u m P Q x.1 x.2.1 x.2.2
def row2 (c d g f u : Int) (m : Bool) (P : List Int) (x : List Int × ByteArray × Option Int) : RecT × Option Int := row3 c d g f u m P x.1 (rowS x.2.1 x.2.2)
def row1 (c d g f u : Int) (m : Bool) (x : List Int × ByteArray × Option Int) : RecT × Option Int := row2 c d g f u m x.1 (rowS x.2.1 x.2.2)
theorem fin_err (c d g f u : Int) (m : Bool) (P Q R : List Int) (s : ByteArray) (e : Int) : recEnd (finF c d g f u m P Q R s (some e)) = (zeroRec, e) := by
  unfold finF
  have h : (if s.size = 0 then some e else oddS 6 (some e)) = some e := by split <;> rfl
  rw [h]
  have h2 : (if mayF c d g f u P Q R = true then some e else oddS 1 (some e)) = some e := by split <;> rfl
  rw [h2]
  rfl
theorem row3_err (c d g f u : Int) (m : Bool) (P Q R : List Int) (s : ByteArray) (e : Int) : recEnd (row3 c d g f u m P Q (R, s, some e)) = (zeroRec, e) := fin_err c d g f u m P Q R s e
theorem row2_err (c d g f u : Int) (m : Bool) (P Q : List Int) (s : ByteArray) (e : Int) : recEnd (row2 c d g f u m P (Q, s, some e)) = (zeroRec, e) := row3_err c d g f u m P Q [] s e
theorem row1_err (c d g f u : Int) (m : Bool) (P : List Int) (s : ByteArray) (e : Int) : recEnd (row1 c d g f u m (P, s, some e)) = (zeroRec, e) := row2_err c d g f u m P [] s e
theorem fin_ok (c d g f u : Int) (m : Bool) (P Q R : List Int) (s : ByteArray) : recEnd (finF c d g f u m P Q R s none) = refEnd c d g f u m P Q R s := by
  unfold finF refEnd
  by_cases hs : s.size = 0
  · have h0 : ¬ 0 < s.size := by omega
    by_cases hm : mayF c d g f u P Q R = true
    · rw [if_pos hm, if_pos hs, if_neg h0, if_pos hm]
      rfl
    · rw [if_neg hm, if_pos hs, if_neg h0, if_neg hm]
      rfl
  · have h0 : 0 < s.size := by omega
    by_cases hm : mayF c d g f u P Q R = true
    · rw [if_pos hm, if_neg hs, if_pos h0]
      rfl
    · rw [if_neg hm, if_neg hs, if_pos h0]
      rfl
theorem row3_ok (c d g f u : Int) (m : Bool) (P Q : List Int) (s : ByteArray) : recEnd (row3 c d g f u m P Q (rowF s)) = if (rowR s).2.2 ≠ 0 then (zeroRec, (rowR s).2.2) else refEnd c d g f u m P Q (rowR s).1 (rowR s).2.1 := by
  have h := row_agree s
  rcases hr : rowF s with ⟨R, s3, _ | e⟩
  · rw [hr] at h
    have h' : rowR s = (R, s3, 0) := h
    rw [h', if_neg (fun h => h rfl)]
    exact fin_ok _ _ _ _ _ _ _ _ _ _
  · rw [hr] at h
    have h' : (rowR s).2.2 = e ∧ e ≠ 0 := h
    rw [if_pos (by rw [h'.1]; exact h'.2), h'.1]
    exact row3_err _ _ _ _ _ _ _ _ _ _ _
theorem row2_ok (c d g f u : Int) (m : Bool) (P : List Int) (s : ByteArray) : recEnd (row2 c d g f u m P (rowF s)) = if (rowR s).2.2 ≠ 0 then (zeroRec, (rowR s).2.2) else recEnd (row3 c d g f u m P (rowR s).1 (rowF (rowR s).2.1)) := by
  have h := row_agree s
  rcases hr : rowF s with ⟨R, s3, _ | e⟩
  · rw [hr] at h
    have h' : rowR s = (R, s3, 0) := h
    rw [h', if_neg (fun h => h rfl)]
    rfl
  · rw [hr] at h
    have h' : (rowR s).2.2 = e ∧ e ≠ 0 := h
    rw [if_pos (by rw [h'.1]; exact h'.2), h'.1]
    exact row2_err _ _ _ _ _ _ _ _ _ _
theorem row1_ok (c d g f u : Int) (m : Bool) (s : ByteArray) : recEnd (row1 c d g f u m (rowF s)) = if (rowR s).2.2 ≠ 0 then (zeroRec, (rowR s).2.2) else recEnd (row2 c d g f u m (rowR s).1 (rowF (rowR s).2.1)) := by
  have h := row_agree s
  rcases hr : rowF s with ⟨R, s3, _ | e⟩
  · rw [hr] at h
    have h' : rowR s = (R, s3, 0) := h
    rw [h', if_neg (fun h => h rfl)]
    rfl
  · rw [hr] at h
    have h' : (rowR s).2.2 = e ∧ e ≠ 0 := h
    rw [if_pos (by rw [h'.1]; exact h'.2), h'.1]
    exact row1_err _ _ _ _ _ _ _ _ _
theorem rows_ok (c d g f u : Int) (m : Bool) (s : ByteArray) : recEnd (row1 c d g f u m (rowF s)) = refRows c d g f u m s := by
  rw [row1_ok, row2_ok, row3_ok]
  rfl
def pt5 (c d g f u : Int) (x : Int × ByteArray × Option Int) : RecT × Option Int := row1 c d g f u (x.1 == 1) (rowS x.2.1 (if 1 < x.1 then oddS 6 x.2.2 else x.2.2))
def pt4 (c d g f : Int) (x : Int × ByteArray × Option Int) : RecT × Option Int := pt5 c d g f (wrap64 x.1) (takeS 1 x.2.1 x.2.2)
def pt3 (c d g : Int) (x : Int × ByteArray × Option Int) : RecT × Option Int := pt4 c d g (wrap64 x.1) (takeS 4 x.2.1 x.2.2)
def pt2 (c d : Int) (x : Int × ByteArray × Option Int) : RecT × Option Int := pt3 c d (wrap64 x.1) (takeS 4 x.2.1 x.2.2)
def pt1 (c : Int) (x : Int × ByteArray × Option Int) : RecT × Option Int := pt2 c (wrap64 x.1) (takeS 4 x.2.1 x.2.2)
def pt0 (x : Int × ByteArray × Option Int) : RecT × Option Int := pt1 (wrap64 x.1) (takeS 4 x.2.1 x.2.2)
theorem parts_pt (s : ByteArray) : partsF s = pt0 (takeS 1 s none) := rfl
theorem pt5_err (c d g f u : Int) (s : ByteArray) : recEnd (pt5 c d g f u (0, s, some 5)) = (zeroRec, 5) := by
  unfold pt5
  dsimp only
  rw [if_neg (show ¬ (1 : Int) < 0 by decide)]
  exact row1_err _ _ _ _ _ _ _ _ _
theorem pt4_err (c d g f v : Int) (s : ByteArray) : recEnd (pt4 c d g f (v, s, some 5)) = (zeroRec, 5) := pt5_err _ _ _ _ _ _
theorem pt3_err (c d g v : Int) (s : ByteArray) : recEnd (pt3 c d g (v, s, some 5)) = (zeroRec, 5) := pt4_err _ _ _ _ _ _
theorem pt2_err (c d v : Int) (s : ByteArray) : recEnd (pt2 c d (v, s, some 5)) = (zeroRec, 5) := pt3_err _ _ _ _ _
theorem pt1_err (c v : Int) (s : ByteArray) : recEnd (pt1 c (v, s, some 5)) = (zeroRec, 5) := pt2_err _ _ _ _
theorem pt0_err (v : Int) (s : ByteArray) : recEnd (pt0 (v, s, some 5)) = (zeroRec, 5) := pt1_err _ _ _
theorem take_yes (m : Nat) (s : ByteArray) (h : m ≤ s.size) : takeS m s none = (numF (s.extract 0 m), s.extract m s.size, none) := by simp [takeS, h]
theorem take_no (m : Nat) (s : ByteArray) (h : s.size < m) : takeS m s none = (0, s, some 5) := by
  unfold takeS
  dsimp only
  rw [if_neg (by omega)]
theorem ext_size (b : ByteArray) (i : Nat) (h : i ≤ b.size) : (b.extract i b.size).size = b.size - i := by rw [ByteArray.size_extract]; omega
theorem ext_ext (b : ByteArray) (i j k : Nat) (h : i + k ≤ b.size) : (b.extract i b.size).extract j k = b.extract (i + j) (i + k) := by
  rw [ByteArray.extract_extract, Nat.min_eq_left h]
theorem num_one (b : ByteArray) (i : Nat) (h : i < b.size) : numF (b.extract i (i + 1)) = bt b (i : Int) := by
  obtain ⟨x, h1, h2, _⟩ := drop_bt b i h
  have : (b.extract i (i + 1)).data.toList = [x] := by
    simp [h1]
  unfold numF
  rw [this, h2]
  simp [numL]
  have := x.toNat_lt
  omega
theorem pt4_short (c d g f v : Int) (s : ByteArray) (h : s.size < 1) : recEnd (pt4 c d g f (v, s, none)) = (zeroRec, 5) := by
  show recEnd (pt5 c d g f (wrap64 v) (takeS 1 s none)) = _
  rw [take_no 1 s h]
  exact pt5_err _ _ _ _ _ _
theorem pt3_short (c d g v : Int) (s : ByteArray) (h : s.size < 5) : recEnd (pt3 c d g (v, s, none)) = (zeroRec, 5) := by
  show recEnd (pt4 c d g (wrap64 v) (takeS 4 s none)) = _
  by_cases h4 : 4 ≤ s.size
  · rw [take_yes 4 s h4]
    exact pt4_short _ _ _ _ _ _ (by rw [ext_size s 4 h4]; omega)
  · rw [take_no 4 s (by omega)]
    exact pt4_err _ _ _ _ _ _
theorem pt2_short (c d v : Int) (s : ByteArray) (h : s.size < 9) : recEnd (pt2 c d (v, s, none)) = (zeroRec, 5) := by
  show recEnd (pt3 c d (wrap64 v) (takeS 4 s none)) = _
  by_cases h4 : 4 ≤ s.size
  · rw [take_yes 4 s h4]
    exact pt3_short _ _ _ _ _ (by rw [ext_size s 4 h4]; omega)
  · rw [take_no 4 s (by omega)]
    exact pt3_err _ _ _ _ _
theorem pt1_short (c v : Int) (s : ByteArray) (h : s.size < 13) : recEnd (pt1 c (v, s, none)) = (zeroRec, 5) := by
  show recEnd (pt2 c (wrap64 v) (takeS 4 s none)) = _
  by_cases h4 : 4 ≤ s.size
  · rw [take_yes 4 s h4]
    exact pt2_short _ _ _ _ (by rw [ext_size s 4 h4]; omega)
  · rw [take_no 4 s (by omega)]
    exact pt2_err _ _ _ _
theorem pt0_short (v : Int) (s : ByteArray) (h : s.size < 17) : recEnd (pt0 (v, s, none)) = (zeroRec, 5) := by
  show recEnd (pt1 (wrap64 v) (takeS 4 s none)) = _
  by_cases h4 : 4 ≤ s.size
  · rw [take_yes 4 s h4]
    exact pt1_short _ _ _ (by rw [ext_size s 4 h4]; omega)
  · rw [take_no 4 s (by omega)]
    exact pt1_err _ _ _
theorem parts_agree (b : ByteArray) : recEnd (partsF b) = refBody b := by
  rw [parts_pt]
  unfold refBody
  by_cases h18 : b.size < 18
  · rw [if_pos h18]
    by_cases h0 : 1 ≤ b.size
    · rw [take_yes 1 b h0]
      exact pt0_short _ _ (by rw [ext_size b 1 h0]; omega)
    · rw [take_no 1 b (by omega)]
      exact pt0_err _ _
  · rw [if_neg h18]
    have s1 : takeS 1 b none = (bt b 0, b.extract 1 b.size, none) := by rw [take_yes 1 b (by omega)]; rw [show numF (b.extract 0 1) = bt b 0 from num_one b 0 (by omega)]
    have st : ∀ i, i + 4 ≤ b.size → takeS 4 (b.extract i b.size) none = (numF (b.extract i (i + 4)), b.extract (i + 4) b.size, none) := fun i hi => by
      rw [take_yes 4 _ (by rw [ext_size b i (by omega)]; omega), ext_size b i (by omega), ext_ext b i 0 4 hi, ext_ext b i 4 (b.size - i) (by omega), show i + (b.size - i) = b.size by omega, Nat.add_zero]
    have s17 : takeS 1 (b.extract 17 b.size) none = (bt b 17, b.extract 18 b.size, none) := by
      rw [take_yes 1 _ (by rw [ext_size b 17 (by omega)]; omega), ext_size b 17 (by omega), ext_ext b 17 0 1 (by omega), ext_ext b 17 1 (b.size - 17) (by omega), show 17 + (b.size - 17) = b.size by omega]
      rw [show numF (b.extract (17 + 0) (17 + 1)) = bt b 17 from num_one b 17 (by omega)]
    rw [s1]
    show recEnd (pt1 (wrap64 (bt b 0)) (takeS 4 (b.extract 1 b.size) none)) = _
    rw [st 1 (by omega)]
    show recEnd (pt2 _ (wrap64 (numF (b.extract 1 5))) (takeS 4 (b.extract 5 b.size) none)) = _
    rw [st 5 (by omega)]
    show recEnd (pt3 _ _ (wrap64 (numF (b.extract 5 9))) (takeS 4 (b.extract 9 b.size) none)) = _
    rw [st 9 (by omega)]
    show recEnd (pt4 _ _ _ (wrap64 (numF (b.extract 9 13))) (takeS 4 (b.extract 13 b.size) none)) = _
    rw [st 13 (by omega)]
    show recEnd (pt5 _ _ _ _ (wrap64 (numF (b.extract 13 17))) (takeS 1 (b.extract 17 b.size) none)) = _
    rw [s17]
    unfold pt5
    dsimp only
    by_cases hb : bt b 17 > 1
    · rw [if_pos hb, if_pos hb]
      exact row1_err _ _ _ _ _ _ _ _ 6
    · rw [if_neg hb, if_neg hb]
      exact rows_ok _ _ _ _ _ _ _
theorem take_agree (s : ByteArray) : takeRec s = takeRef s := by
  unfold takeRec takeRef
  rw [parts_agree]
theorem take_f_agree (s : ByteArray) : crc_Take.f s = tallystickref14_Take.f s := by
  unfold crc_Take.f tallystickref14_Take.f
  rw [take_agree]
/-- The ends of a range that Take answers. -/
def Rng (x : RecT × Int) : Prop := (0 ≤ x.1.2.2.2.1 ∧ x.1.2.2.2.1 ≤ 2147483647) ∧ (0 ≤ x.1.2.2.2.2.1 ∧ x.1.2.2.2.2.1 ≤ 2147483647) ∧ x.1.2.2.2.2.2.1.length ≤ 4096 ∧ x.1.2.2.2.2.2.2.1.length ≤ 4096 ∧ x.1.2.2.2.2.2.2.2.1.length ≤ 4096
theorem rng_zero (e : Int) : Rng (zeroRec, e) := by
  unfold Rng zeroRec
  simp
theorem rng_if {c : Prop} [Decidable c] {x y : RecT × Int} (hx : c → Rng x) (hy : ¬ c → Rng y) : Rng (if c then x else y) := by
  split
  · exact hx ‹_›
  · exact hy ‹_›
theorem rng_end (c d g f u : Int) (m : Bool) (P Q R : List Int) (s : ByteArray) : Rng (refEnd c d g f u m P Q R s) :=
  rng_if (fun _ => rng_zero _) (fun _ => rng_if (fun hm => by
    simp only [mayF, oddB, ordB, Bool.and_eq_true, Bool.not_eq_true', Bool.or_eq_false_iff, decide_eq_false_iff_not, decide_eq_true_eq] at hm
    unfold Rng
    dsimp only
    omega) (fun _ => rng_zero _))
theorem take_rng (s : ByteArray) : Rng (takeRef s) :=
  rng_if (fun _ => rng_zero _) (fun _ => rng_if (fun _ => rng_zero _) (fun _ => rng_if (fun _ => rng_zero _) (fun _ =>
    rng_if (fun _ => rng_zero _) (fun _ => rng_if (fun _ => rng_zero _) (fun _ => rng_if (fun _ => rng_zero _) (fun _ => rng_if (fun _ => rng_zero _) (fun _ => rng_if (fun _ => rng_zero _) (fun _ => rng_end _ _ _ _ _ _ _ _ _ _))))))))
end Go.Proofs.YtbpobnlkfpjijaaDoorR.Pr
end
-- Pr28
section
namespace Go.Proofs.YtbpobnlkfpjijaaDoorR.Pr
open Go.RowKit Go.Proofs.YtbpobnlkfpjijaaDoorRW.PrintWords Go.Proofs.YtbpobnlkfpjijaaDoorRW.PrintLast Go.Proofs.YtbpobnlkfpjijaaDoorRW.PrintMore
attribute [local go_sem] max2_int min2_int max_two min_two max_three min_three max_four min_four   -- for this text's walks alone
set_option linter.unusedVariables false
set_option linter.unusedSimpArgs false

attribute [local go_sem] Go.Proofs.Aid.cell_set_row
def tallystickref15_name.f (a0 : ByteArray) : Option (Bool) := if (a0.size : Int) ≥ 1 then (some (decide ((a0.size : Int) ≤ 16))) else (some false)
set_option maxHeartbeats 8000000 in
set_option maxRecDepth 100000 in
theorem tallystickref15_name.calls (a0 : ByteArray) (r : Bool) (w : World) (h : tallystickref15_name.f a0 = some r) :
    Calls Tryd.prog 13 #[.string a0] w fun e w' => e = .returned (.bool r) ∧ Drawn0 w w' := by
  have H : (if (a0.size : Int) ≥ 1 then (some (decide ((a0.size : Int) ≤ 16))) else (some false)) = some r := h
  clear h
  by_cases c2 : (a0.size : Int) ≥ 1
  · rw [if_pos c2] at H
    have c2b0 : decide (1 ≤ (a0.size : Int)) = true := decide_eq_true c2
    have c2b1 : decide (1 ≤ a0.size) = true := decide_eq_true (by omega)
    clear c2
    obtain rfl := Option.some.inj H
    go_enter Tryd.func13, Tryd.ntmps13
    go_wp2
    go_ret
    exact ⟨by first | rfl | (simp; done) | (simp [*]; done), by repeat (first | exact Drawn0.refl _ | apply Drawn0.step)⟩
  · rw [if_neg c2] at H
    have c2b0 : decide (1 ≤ (a0.size : Int)) = false := decide_eq_false c2
    have c2b1 : decide (1 ≤ a0.size) = false := decide_eq_false (by omega)
    clear c2
    obtain rfl := Option.some.inj H
    go_enter Tryd.func13, Tryd.ntmps13
    go_wp2
    go_ret
    exact ⟨by first | rfl | (simp; done) | (simp [*]; done), by repeat (first | exact Drawn0.refl _ | apply Drawn0.step)⟩

end Go.Proofs.YtbpobnlkfpjijaaDoorR.Pr
end
-- Pr29
section
namespace Go.Proofs.YtbpobnlkfpjijaaDoorR.Pr
open Go.RowKit Go.Proofs.YtbpobnlkfpjijaaDoorRW.PrintWords Go.Proofs.YtbpobnlkfpjijaaDoorRW.PrintLast Go.Proofs.YtbpobnlkfpjijaaDoorRW.PrintMore
attribute [local go_sem] max2_int min2_int max_two min_two max_three min_three max_four min_four   -- for this text's walks alone
set_option linter.unusedVariables false
set_option linter.unusedSimpArgs false

attribute [local go_sem] Go.Proofs.Aid.cell_set_row
mutual
def tallystickref15_Right.j0 : Nat → Bool → Int → List (S41) → Option (Bool)
  | 0, _, _, _ => none
  | k + 1, x13, x122000, x122001 => if x13 = true then (some false) else (tallystickref15_Right.l0 k 0 x122000 x122001)
def tallystickref15_Right.l0 : Nat → Int → Int → List (S41) → Option (Bool)
  | 0, _, _, _ => none
  | k + 1, x3, x122000, x122001 => if x3 < (x122001.length : Int) then (if 0 ≤ x3 then ((tallystickref15_name.f ((rd_T41 x122001 x3).f0)).bind fun t123 => (if t123 = true then (if x3 > 0 then (if 0 ≤ (wrap64 (x3 - 1)) then (if (wrap64 (x3 - 1)) < (x122001.length : Int) then (if ((Op.bytesLess (((rd_T41 x122001 (wrap64 (x3 - 1))).f0).toList) (((rd_T41 x122001 x3).f0).toList)) = true) then (tallystickref15_Right.l0 k (wrap64 (x3 + 1)) x122000 x122001) else (some false)) else (none)) else (none)) else (tallystickref15_Right.l0 k (wrap64 (x3 + 1)) x122000 x122001)) else (some false))) else (none)) else (some true)
end
def tallystickref15_Right.f (k : Nat) (a0_0 : Int) (l0_1 : List (S41)) : Option (Bool) := if a0_0 < 0 then (tallystickref15_Right.j0 k true a0_0 l0_1) else (tallystickref15_Right.j0 k (decide ((l0_1.length : Int) > 64)) a0_0 l0_1)
theorem tallystickref15_Right.mono_l : ∀ k, (∀ y0 y1 y2, LeO (tallystickref15_Right.j0 k y0 y1 y2) (tallystickref15_Right.j0 (k + 1) y0 y1 y2)) ∧ (∀ y0 y1 y2, LeO (tallystickref15_Right.l0 k y0 y1 y2) (tallystickref15_Right.l0 (k + 1) y0 y1 y2))
  | 0 => ⟨fun _ _ _ r h => by simp [tallystickref15_Right.j0] at h, fun _ _ _ r h => by simp [tallystickref15_Right.l0] at h⟩
  | k + 1 => by
    obtain ⟨ih0, ih1⟩ := tallystickref15_Right.mono_l k
    refine ⟨?_, ?_⟩
    · intro y0 y1 y2
      unfold tallystickref15_Right.j0
      repeat' first
      | (with_reducible exact ih0 _ _ _)
      | (with_reducible exact ih1 _ _ _)
      | (with_reducible exact LeO.refl _)
      | (with_reducible exact LeO.none _)
      | (with_reducible refine LeO.ite ?_ ?_)
      | (with_reducible refine LeO.bind ?_ (fun _ => ?_))
      | exact ih0 _ _ _
      | exact ih1 _ _ _
      | exact LeO.none _
      | refine LeO.ite ?_ ?_
      | refine LeO.bind ?_ (fun _ => ?_)
    · intro y0 y1 y2
      unfold tallystickref15_Right.l0
      repeat' first
      | (with_reducible exact ih0 _ _ _)
      | (with_reducible exact ih1 _ _ _)
      | (with_reducible exact LeO.refl _)
      | (with_reducible exact LeO.none _)
      | (with_reducible refine LeO.ite ?_ ?_)
      | (with_reducible refine LeO.bind ?_ (fun _ => ?_))
      | exact ih0 _ _ _
      | exact ih1 _ _ _
      | exact LeO.none _
      | refine LeO.ite ?_ ?_
      | refine LeO.bind ?_ (fun _ => ?_)
theorem tallystickref15_Right.mono : ∀ a0 a1 k, LeO (tallystickref15_Right.f k a0 a1) (tallystickref15_Right.f (k + 1) a0 a1) := by
  intro a0 a1 k
  obtain ⟨ih0, ih1⟩ := tallystickref15_Right.mono_l k
  unfold tallystickref15_Right.f
  repeat' first
      | (with_reducible exact ih0 _ _ _)
      | (with_reducible exact ih1 _ _ _)
      | (with_reducible exact LeO.refl _)
      | (with_reducible exact LeO.none _)
      | (with_reducible refine LeO.ite ?_ ?_)
      | (with_reducible refine LeO.bind ?_ (fun _ => ?_))
      | exact ih0 _ _ _
      | exact ih1 _ _ _
      | exact LeO.none _
      | refine LeO.ite ?_ ?_
      | refine LeO.bind ?_ (fun _ => ?_)
set_option maxHeartbeats 8000000 in
set_option maxRecDepth 100000 in
theorem tallystickref15_Right.calls (k : Nat) (a0_0 : Int) (A0_1 : Option Addr) (c0_1 : Nat) (l0_1 : List (S41)) (r : Bool) (w : World) (hr0_1 : Kd.C k41 w A0_1 l0_1.length l0_1) (hc0_1 : l0_1.length ≤ c0_1) (h : tallystickref15_Right.f k a0_0 l0_1 = some r) :
    Calls Tryd.prog 7 #[.agg #[.int .i64 a0_0, .slice A0_1 l0_1.length c0_1]] w fun e w' => e = .returned (.bool r) ∧ Below w.heap.size w w' := by
  have hu29 := Tryd.underlying29
  have HR0_1 := Aside0.mk hr0_1
  have HC0_1 := Aside0.mk hc0_1
  clear hr0_1 hc0_1
  have HB := Aside0.mk (Below.refl w.heap.size w)
  have H : (if a0_0 < 0 then (tallystickref15_Right.j0 k true a0_0 l0_1) else (tallystickref15_Right.j0 k (decide ((l0_1.length : Int) > 64)) a0_0 l0_1)) = some r := h
  clear h
  have HC2 := Aside0.mk H
  clear H
  go_enter Tryd.func7, Tryd.ntmps7
  go_upto_region 1 with (first | ((with_reducible refine gate_dst (N := 1) rfl ?_); (try (refine gate_guard (by rfl) ?_; dsimp only)); refine box_event ?hg (N := 1) ?hd (cs := #[.int .i64 a0_0, .slice A0_1 l0_1.length c0_1]) (t := 29) ?hr ?_; (case hd => rfl); (case hg => rfl); (case hr => first | (go_simp; done) | (go_simp; rfl)); intro gb121 hg w3 hbox hb; have n0_ := Aside0.mk (below_step (by repeat (first | (with_reducible first | exact HB.out | apply below_alloc | apply pw_below_drewN | apply below_drew1) | exact HB.out)) hb); have n1_ := Aside0.mk (hbox); have n2_ := Aside0.mk ((by rw [hg]; exact (below_size (by repeat (first | (with_reducible first | exact HB.out | apply below_alloc | apply pw_below_drewN | apply below_drew1) | exact HB.out))) : w.heap.size ≤ gb121)); have n3_ := Aside0.mk ((by rw [hg]; exact (below_size (by repeat (first | (with_reducible first | exact HB.out | apply below_alloc | apply pw_below_drewN | apply below_drew1) | exact HB.out))) : w.heap.size ≤ gb121)); clear HB; have HB := n0_; have BK121 := n1_; have GW121 := n2_; have GE121 := n3_; clear n0_ n1_ n2_ n3_; clear hb hbox hg))
  repeat (go_quiet (first | ((with_reducible refine gate_dst (N := 1) rfl ?_); (try (refine gate_guard (by rfl) ?_; dsimp only)); refine box_event ?hg (N := 1) ?hd (cs := #[.int .i64 a0_0, .slice A0_1 l0_1.length c0_1]) (t := 29) ?hr ?_; (case hd => rfl); (case hg => rfl); (case hr => first | (go_simp; done) | (go_simp; rfl)); intro gb121 hg w3 hbox hb; have n0_ := Aside0.mk (below_step (by repeat (first | (with_reducible first | exact HB.out | apply below_alloc | apply pw_below_drewN | apply below_drew1) | exact HB.out)) hb); have n1_ := Aside0.mk (hbox); have n2_ := Aside0.mk ((by rw [hg]; exact (below_size (by repeat (first | (with_reducible first | exact HB.out | apply below_alloc | apply pw_below_drewN | apply below_drew1) | exact HB.out))) : w.heap.size ≤ gb121)); have n3_ := Aside0.mk ((by rw [hg]; exact (below_size (by repeat (first | (with_reducible first | exact HB.out | apply below_alloc | apply pw_below_drewN | apply below_drew1) | exact HB.out))) : w.heap.size ≤ gb121)); clear HB; have HB := n0_; have BK121 := n1_; have GW121 := n2_; have GE121 := n3_; clear n0_ n1_ n2_ n3_; clear hb hbox hg)); go_upto_region 1 with (first | ((with_reducible refine gate_dst (N := 1) rfl ?_); (try (refine gate_guard (by rfl) ?_; dsimp only)); refine box_event ?hg (N := 1) ?hd (cs := #[.int .i64 a0_0, .slice A0_1 l0_1.length c0_1]) (t := 29) ?hr ?_; (case hd => rfl); (case hg => rfl); (case hr => first | (go_simp; done) | (go_simp; rfl)); intro gb121 hg w3 hbox hb; have n0_ := Aside0.mk (below_step (by repeat (first | (with_reducible first | exact HB.out | apply below_alloc | apply pw_below_drewN | apply below_drew1) | exact HB.out)) hb); have n1_ := Aside0.mk (hbox); have n2_ := Aside0.mk ((by rw [hg]; exact (below_size (by repeat (first | (with_reducible first | exact HB.out | apply below_alloc | apply pw_below_drewN | apply below_drew1) | exact HB.out))) : w.heap.size ≤ gb121)); have n3_ := Aside0.mk ((by rw [hg]; exact (below_size (by repeat (first | (with_reducible first | exact HB.out | apply below_alloc | apply pw_below_drewN | apply below_drew1) | exact HB.out))) : w.heap.size ≤ gb121)); clear HB; have HB := n0_; have BK121 := n1_; have GW121 := n2_; have GE121 := n3_; clear n0_ n1_ n2_ n3_; clear hb hbox hg)))
  (try simp only [Act.put, List.setIfInBounds_toArray, List.set_cons_zero, List.set_cons_succ])
  go_cut [13] (fun v13 wc => ∃ (kq : Nat) (x13_1 : Bool), v13 = .bool x13_1 ∧ Aside0 (tallystickref15_Right.j0 kq x13_1 a0_0 l0_1 = some r) ∧ Aside0 (kq ≤ k) ∧ Aside0 (wc.heap[gb121]? = some (.cells #[.int .i64 a0_0, (.slice A0_1 l0_1.length c0_1)] 29 (0, 0))) ∧ Aside0 (Below w.heap.size w wc))
  case first =>
    have H := HC2.out
    clear HC2
    by_cases c4 : a0_0 < 0
    · rw [if_pos c4] at H
      have c4b0 : decide (a0_0 < 0) = true := decide_eq_true c4
      clear c4
      (first | rw [c4b0] | (simp only [i64_w, i32_w]; rw [c4b0]) | skip)
      have H' := Aside0.mk H
      clear H
      have hcz5_0 : w3.cell? ⟨gb121, 0, none⟩ = some (.int .i64 a0_0) := (blk_cell BK121.out 0).trans rfl
      have hcz5_1 : w3.cell? ⟨gb121, 1, none⟩ = some (.slice A0_1 l0_1.length c0_1) := (blk_cell BK121.out 1).trans rfl
      have hfz5_0 := blk_frozen BK121.out 0
      have hfz5_1 := blk_frozen BK121.out 1
      go_wp2
      repeat (go_quiet (fail); try go_wp2)
      go_meet
      case rel => exact ⟨_, (true), (by first | rfl | (simp; done) | (simp [*]; done)), H', ⟨by first | omega | exact Nat.le_refl _⟩, ⟨by (with_reducible repeat (first | refine blk_drewN ?_ _ | refine blk_drew ?_ | refine blk_alloc ?_ _)); exact BK121.out⟩, ⟨by repeat (first | (with_reducible first | exact HB.out | apply below_alloc | apply pw_below_drewN | apply below_drew1 | refine below_set ?_ GE121.out) | exact HB.out)⟩⟩
    · rw [if_neg c4] at H
      have c4b0 : decide (a0_0 < 0) = false := decide_eq_false c4
      clear c4
      (first | rw [c4b0] | (simp only [i64_w, i32_w]; rw [c4b0]) | skip)
      have H' := Aside0.mk H
      clear H
      have hcz6_0 : w3.cell? ⟨gb121, 0, none⟩ = some (.int .i64 a0_0) := (blk_cell BK121.out 0).trans rfl
      have hcz6_1 : w3.cell? ⟨gb121, 1, none⟩ = some (.slice A0_1 l0_1.length c0_1) := (blk_cell BK121.out 1).trans rfl
      have hfz6_0 := blk_frozen BK121.out 0
      have hfz6_1 := blk_frozen BK121.out 1
      go_wp2
      repeat (go_quiet (fail); try go_wp2)
      go_meet
      case rel => exact ⟨_, (decide ((l0_1.length : Int) > 64)), (by first | rfl | (simp; done) | (simp [*]; done)), H', ⟨by first | omega | exact Nat.le_refl _⟩, ⟨by (with_reducible repeat (first | refine blk_drewN ?_ _ | refine blk_drew ?_ | refine blk_alloc ?_ _)); exact BK121.out⟩, ⟨by repeat (first | (with_reducible first | exact HB.out | apply below_alloc | apply pw_below_drewN | apply below_drew1 | refine below_set ?_ GE121.out) | exact HB.out)⟩⟩
  case rest =>
    clear HC2
    try clear p2
    try clear c4
    try clear c4b0
    try clear hcz5_0
    try clear hcz5_1
    try clear hcz6_0
    try clear hcz6_1
    try clear hfz5_0
    try clear hfz5_1
    try clear hfz6_0
    try clear hfz6_1
    obtain ⟨kq, x13_1, rfl, HA, HJ1, BK121, HB⟩ := hcut
    cases kq with
    | zero => exact absurd HA.out (by simp [tallystickref15_Right.j0])
    | succ kj1 =>
      have H := HA.out
      clear HA
      simp only [tallystickref15_Right.j0] at H
      by_cases c7 : x13_1 = true
      · subst c7
        have H1 : (some false) = some r := by rw [if_pos rfl] at H; exact H
        clear H
        have H := H1
        clear H1
        obtain rfl := Option.some.inj H
        go_wp2
        repeat (go_quiet (fail); try go_wp2)
        go_ret
        exact ⟨by first | rfl | (simp [errW_none, errW_some] <;> rfl) | (simp [*, errW_none, errW_some] <;> rfl), by repeat (first | (with_reducible first | exact HB.out | apply below_alloc | apply pw_below_drewN | apply below_drew1 | refine below_set ?_ GE121.out) | exact HB.out)⟩
      · replace c7 := Bool.eq_false_iff.mpr c7
        subst c7
        have H1 : (tallystickref15_Right.l0 kj1 0 a0_0 l0_1) = some r := by rw [if_neg (show ¬ (false = true) by decide)] at H; exact H
        clear H
        have H := H1
        clear H1
        have H' := Aside0.mk H
        clear H
        go_wp2
        repeat (go_quiet (fail); try go_wp2)
        go_loopg [3] kj1 (fun kq v3 w' => ∃ (x3_2 : Int), v3 = .int .i64 x3_2 ∧ Aside0 (tallystickref15_Right.l0 kq x3_2 a0_0 l0_1 = some r) ∧ Aside0 (kq ≤ kj1) ∧ Aside0 (w'.heap[gb121]? = some (.cells #[.int .i64 a0_0, (.slice A0_1 l0_1.length c0_1)] 29 (0, 0))) ∧ Aside0 (Below w.heap.size w w'))
        case atStart => exact ⟨(0), (by first | rfl | (simp; done) | (simp [*]; done)), H', ⟨Nat.le_refl _⟩, ⟨by (with_reducible repeat (first | refine blk_drewN ?_ _ | refine blk_drew ?_ | refine blk_alloc ?_ _)); exact BK121.out⟩, ⟨by repeat (first | (with_reducible first | exact HB.out | apply below_alloc | apply pw_below_drewN | apply below_drew1 | refine below_set ?_ GE121.out) | exact HB.out)⟩⟩
        case round =>
          clear H'
          try clear p2
          try clear c4
          try clear c4b0
          try clear c7
          try clear hcz5_0
          try clear hcz5_1
          try clear hcz6_0
          try clear hcz6_1
          try clear hfz5_0
          try clear hfz5_1
          try clear hfz6_0
          try clear hfz6_1
          try clear p2
          obtain ⟨x3_2, rfl, HA, HK2, BK121, HB⟩ := hrel
          cases gk with
          | zero => exact absurd HA.out (by simp [tallystickref15_Right.l0])
          | succ k2 =>
            have H := HA.out
            clear HA
            simp only [tallystickref15_Right.l0] at H
            by_cases c8 : x3_2 < (l0_1.length : Int)
            · rw [if_pos c8] at H
              have c8b0 : decide (x3_2 < (l0_1.length : Int)) = true := decide_eq_true c8
              clear c8
              by_cases c9 : 0 ≤ x3_2
              · rw [if_pos c9] at H
                have c9b0 : decide (0 ≤ x3_2) = true := decide_eq_true c9
                clear c9
                replace H := Option.bind_eq_some_iff.mp H
                obtain ⟨t123, A100, H⟩ := H
                replace H : (if t123 = true then (if x3_2 > 0 then (if 0 ≤ (wrap64 (x3_2 - 1)) then (if (wrap64 (x3_2 - 1)) < (l0_1.length : Int) then (if ((Op.bytesLess (((rd_T41 l0_1 (wrap64 (x3_2 - 1))).f0).toList) (((rd_T41 l0_1 x3_2).f0).toList)) = true) then (tallystickref15_Right.l0 k2 (wrap64 (x3_2 + 1)) a0_0 l0_1) else (some false)) else (none)) else (none)) else (tallystickref15_Right.l0 k2 (wrap64 (x3_2 + 1)) a0_0 l0_1)) else (some false)) = some r := H
                have A10 := Aside0.mk A100
                clear A100
                by_cases c11 : t123 = true
                · subst c11
                  have H1 : (if x3_2 > 0 then (if 0 ≤ (wrap64 (x3_2 - 1)) then (if (wrap64 (x3_2 - 1)) < (l0_1.length : Int) then (if ((Op.bytesLess (((rd_T41 l0_1 (wrap64 (x3_2 - 1))).f0).toList) (((rd_T41 l0_1 x3_2).f0).toList)) = true) then (tallystickref15_Right.l0 k2 (wrap64 (x3_2 + 1)) a0_0 l0_1) else (some false)) else (none)) else (none)) else (tallystickref15_Right.l0 k2 (wrap64 (x3_2 + 1)) a0_0 l0_1)) = some r := by rw [if_pos rfl] at H; exact H
                  clear H
                  have H := H1
                  clear H1
                  by_cases c12 : x3_2 > 0
                  · rw [if_pos c12] at H
                    have c12b0 : decide (0 < x3_2) = true := decide_eq_true c12
                    clear c12
                    obtain ⟨ji13, hji13⟩ : ∃ j_ : Int, (wrap64 (x3_2 - 1)) = j_ := ⟨_, rfl⟩
                    replace H : (if 0 ≤ (ji13) then (if (ji13) < (l0_1.length : Int) then (if ((Op.bytesLess (((rd_T41 l0_1 (ji13)).f0).toList) (((rd_T41 l0_1 x3_2).f0).toList)) = true) then (tallystickref15_Right.l0 k2 (wrap64 (x3_2 + 1)) a0_0 l0_1) else (some false)) else (none)) else (none)) = some r := by first | (rw [hji13] at H; exact H) | (simp only [hji13] at H ⊢; exact H)
                    (try rw [hji13] at A10)
                    have hji13w : (IntKind.i64.wrap (x3_2 - 1)) = ji13 := (i64_w _).trans hji13
                    by_cases c14 : 0 ≤ (ji13)
                    · rw [if_pos c14] at H
                      have c14b0 : decide (0 ≤ (ji13)) = true := decide_eq_true c14
                      clear c14
                      by_cases c15 : (ji13) < (l0_1.length : Int)
                      · rw [if_pos c15] at H
                        have c15b0 : decide ((ji13) < (l0_1.length : Int)) = true := decide_eq_true c15
                        clear c15
                        by_cases c16 : ((Op.bytesLess (((rd_T41 l0_1 (ji13)).f0).toList) (((rd_T41 l0_1 x3_2).f0).toList)) = true)
                        · rw [if_pos c16] at H
                          have c16b0 : (Op.bytesLess (((rd_T41 l0_1 (ji13)).f0).toList) (((rd_T41 l0_1 x3_2).f0).toList)) = true := c16
                          clear c16
                          have H' := Aside0.mk H
                          clear H
                          have hcz17_0 : wr.cell? ⟨gb121, 0, none⟩ = some (.int .i64 a0_0) := (blk_cell BK121.out 0).trans rfl
                          have hcz17_1 : wr.cell? ⟨gb121, 1, none⟩ = some (.slice A0_1 l0_1.length c0_1) := (blk_cell BK121.out 1).trans rfl
                          have hfz17_0 := blk_frozen BK121.out 0
                          have hfz17_1 := blk_frozen BK121.out 1
                          have p122 : 0 ≤ (x3_2 : Int) := of_decide_eq_true (by first | (with_reducible assumption) | assumption)
                          have q122 : x3_2 < (l0_1.length : Int) := of_decide_eq_true (by first | (with_reducible assumption) | assumption)
                          obtain ⟨ad122, e122, hx122_0, hx122_1, hx122_2⟩ := at_T41 HR0_1.out x3_2 p122 q122
                          cases e122
                          replace hx122_0 := (HB.out.cell (World.block_lt_of_cell? w _ hx122_0)).trans hx122_0
                          replace hx122_1 := (HB.out.cell (World.block_lt_of_cell? w _ hx122_1)).trans hx122_1
                          replace hx122_2 := (HB.out.cell (World.block_lt_of_cell? w _ hx122_2)).trans hx122_2
                          replace p122 := eq_true p122
                          replace q122 := eq_true q122
                          go_wp2_with (first | (go_at_call 13; (with_reducible refine (tallystickref15_name.calls ((rd_T41 l0_1 x3_2).f0) true _ A10.out).mono ?_); rintro e w' ⟨rfl, ⟨nd, rfl⟩⟩; (try first | exact ⟨rfl, _, World.drewN_drewN _ _ _⟩ | exact ⟨rfl, _, Eq.trans (World.drewN_drewN _ _ _) (congrArg (World.drewN _) (Nat.add_assoc _ _ _))⟩); have p124 : 0 ≤ ((ji13) : Int) := of_decide_eq_true (by first | (with_reducible assumption) | assumption); have q124 : (ji13) < (l0_1.length : Int) := of_decide_eq_true (by first | (with_reducible assumption) | assumption); obtain ⟨ad124, e124, hx124_0, hx124_1, hx124_2⟩ := at_T41 HR0_1.out (ji13) p124 q124; obtain rfl : ad122 = ad124 := (by injection e124); replace hx124_0 := (HB.out.cell (World.block_lt_of_cell? w _ hx124_0)).trans hx124_0; replace hx124_1 := (HB.out.cell (World.block_lt_of_cell? w _ hx124_1)).trans hx124_1; replace hx124_2 := (HB.out.cell (World.block_lt_of_cell? w _ hx124_2)).trans hx124_2; replace p124 := eq_true p124; replace q124 := eq_true q124; have p125 : 0 ≤ (x3_2 : Int) := of_decide_eq_true (by first | (with_reducible assumption) | assumption); have q125 : x3_2 < (l0_1.length : Int) := of_decide_eq_true (by first | (with_reducible assumption) | assumption); obtain ⟨ad125, e125, hx125_0, hx125_1, hx125_2⟩ := at_T41 HR0_1.out x3_2 p125 q125; obtain rfl : ad122 = ad125 := (by injection e125); replace hx125_0 := (HB.out.cell (World.block_lt_of_cell? w _ hx125_0)).trans hx125_0; replace hx125_1 := (HB.out.cell (World.block_lt_of_cell? w _ hx125_1)).trans hx125_1; replace hx125_2 := (HB.out.cell (World.block_lt_of_cell? w _ hx125_2)).trans hx125_2; replace p125 := eq_true p125; replace q125 := eq_true q125))
                          repeat (go_quiet (first | (go_at_call 13; (with_reducible refine (tallystickref15_name.calls ((rd_T41 l0_1 x3_2).f0) true _ A10.out).mono ?_); rintro e w' ⟨rfl, ⟨nd, rfl⟩⟩; (try first | exact ⟨rfl, _, World.drewN_drewN _ _ _⟩ | exact ⟨rfl, _, Eq.trans (World.drewN_drewN _ _ _) (congrArg (World.drewN _) (Nat.add_assoc _ _ _))⟩); have p124 : 0 ≤ ((ji13) : Int) := of_decide_eq_true (by first | (with_reducible assumption) | assumption); have q124 : (ji13) < (l0_1.length : Int) := of_decide_eq_true (by first | (with_reducible assumption) | assumption); obtain ⟨ad124, e124, hx124_0, hx124_1, hx124_2⟩ := at_T41 HR0_1.out (ji13) p124 q124; obtain rfl : ad122 = ad124 := (by injection e124); replace hx124_0 := (HB.out.cell (World.block_lt_of_cell? w _ hx124_0)).trans hx124_0; replace hx124_1 := (HB.out.cell (World.block_lt_of_cell? w _ hx124_1)).trans hx124_1; replace hx124_2 := (HB.out.cell (World.block_lt_of_cell? w _ hx124_2)).trans hx124_2; replace p124 := eq_true p124; replace q124 := eq_true q124; have p125 : 0 ≤ (x3_2 : Int) := of_decide_eq_true (by first | (with_reducible assumption) | assumption); have q125 : x3_2 < (l0_1.length : Int) := of_decide_eq_true (by first | (with_reducible assumption) | assumption); obtain ⟨ad125, e125, hx125_0, hx125_1, hx125_2⟩ := at_T41 HR0_1.out x3_2 p125 q125; obtain rfl : ad122 = ad125 := (by injection e125); replace hx125_0 := (HB.out.cell (World.block_lt_of_cell? w _ hx125_0)).trans hx125_0; replace hx125_1 := (HB.out.cell (World.block_lt_of_cell? w _ hx125_1)).trans hx125_1; replace hx125_2 := (HB.out.cell (World.block_lt_of_cell? w _ hx125_2)).trans hx125_2; replace p125 := eq_true p125; replace q125 := eq_true q125)); try go_wp2_with (first | (go_at_call 13; (with_reducible refine (tallystickref15_name.calls ((rd_T41 l0_1 x3_2).f0) true _ A10.out).mono ?_); rintro e w' ⟨rfl, ⟨nd, rfl⟩⟩; (try first | exact ⟨rfl, _, World.drewN_drewN _ _ _⟩ | exact ⟨rfl, _, Eq.trans (World.drewN_drewN _ _ _) (congrArg (World.drewN _) (Nat.add_assoc _ _ _))⟩); have p124 : 0 ≤ ((ji13) : Int) := of_decide_eq_true (by first | (with_reducible assumption) | assumption); have q124 : (ji13) < (l0_1.length : Int) := of_decide_eq_true (by first | (with_reducible assumption) | assumption); obtain ⟨ad124, e124, hx124_0, hx124_1, hx124_2⟩ := at_T41 HR0_1.out (ji13) p124 q124; obtain rfl : ad122 = ad124 := (by injection e124); replace hx124_0 := (HB.out.cell (World.block_lt_of_cell? w _ hx124_0)).trans hx124_0; replace hx124_1 := (HB.out.cell (World.block_lt_of_cell? w _ hx124_1)).trans hx124_1; replace hx124_2 := (HB.out.cell (World.block_lt_of_cell? w _ hx124_2)).trans hx124_2; replace p124 := eq_true p124; replace q124 := eq_true q124; have p125 : 0 ≤ (x3_2 : Int) := of_decide_eq_true (by first | (with_reducible assumption) | assumption); have q125 : x3_2 < (l0_1.length : Int) := of_decide_eq_true (by first | (with_reducible assumption) | assumption); obtain ⟨ad125, e125, hx125_0, hx125_1, hx125_2⟩ := at_T41 HR0_1.out x3_2 p125 q125; obtain rfl : ad122 = ad125 := (by injection e125); replace hx125_0 := (HB.out.cell (World.block_lt_of_cell? w _ hx125_0)).trans hx125_0; replace hx125_1 := (HB.out.cell (World.block_lt_of_cell? w _ hx125_1)).trans hx125_1; replace hx125_2 := (HB.out.cell (World.block_lt_of_cell? w _ hx125_2)).trans hx125_2; replace p125 := eq_true p125; replace q125 := eq_true q125)))
                          go_roundg k2
                          case measure => have := HJ1.out; have := HK2.out; omega
                          case rel => exact ⟨(wrap64 (x3_2 + 1)), (by first | rfl | (simp; done) | (simp [*]; done)), H', ⟨by have := HJ1.out; have := HK2.out; omega⟩, ⟨by (with_reducible repeat (first | refine blk_drewN ?_ _ | refine blk_drew ?_ | refine blk_alloc ?_ _)); exact BK121.out⟩, ⟨by repeat (first | (with_reducible first | exact HB.out | apply below_alloc | apply pw_below_drewN | apply below_drew1 | refine below_set ?_ GE121.out) | exact HB.out)⟩⟩
                        · rw [if_neg c16] at H
                          have c16b0 : (Op.bytesLess (((rd_T41 l0_1 (ji13)).f0).toList) (((rd_T41 l0_1 x3_2).f0).toList)) = false := by simpa using c16
                          clear c16
                          obtain rfl := Option.some.inj H
                          have hcz18_0 : wr.cell? ⟨gb121, 0, none⟩ = some (.int .i64 a0_0) := (blk_cell BK121.out 0).trans rfl
                          have hcz18_1 : wr.cell? ⟨gb121, 1, none⟩ = some (.slice A0_1 l0_1.length c0_1) := (blk_cell BK121.out 1).trans rfl
                          have hfz18_0 := blk_frozen BK121.out 0
                          have hfz18_1 := blk_frozen BK121.out 1
                          have p122 : 0 ≤ (x3_2 : Int) := of_decide_eq_true (by first | (with_reducible assumption) | assumption)
                          have q122 : x3_2 < (l0_1.length : Int) := of_decide_eq_true (by first | (with_reducible assumption) | assumption)
                          obtain ⟨ad122, e122, hx122_0, hx122_1, hx122_2⟩ := at_T41 HR0_1.out x3_2 p122 q122
                          cases e122
                          replace hx122_0 := (HB.out.cell (World.block_lt_of_cell? w _ hx122_0)).trans hx122_0
                          replace hx122_1 := (HB.out.cell (World.block_lt_of_cell? w _ hx122_1)).trans hx122_1
                          replace hx122_2 := (HB.out.cell (World.block_lt_of_cell? w _ hx122_2)).trans hx122_2
                          replace p122 := eq_true p122
                          replace q122 := eq_true q122
                          go_wp2_with (first | (go_at_call 13; (with_reducible refine (tallystickref15_name.calls ((rd_T41 l0_1 x3_2).f0) true _ A10.out).mono ?_); rintro e w' ⟨rfl, ⟨nd, rfl⟩⟩; (try first | exact ⟨rfl, _, World.drewN_drewN _ _ _⟩ | exact ⟨rfl, _, Eq.trans (World.drewN_drewN _ _ _) (congrArg (World.drewN _) (Nat.add_assoc _ _ _))⟩); have p124 : 0 ≤ ((ji13) : Int) := of_decide_eq_true (by first | (with_reducible assumption) | assumption); have q124 : (ji13) < (l0_1.length : Int) := of_decide_eq_true (by first | (with_reducible assumption) | assumption); obtain ⟨ad124, e124, hx124_0, hx124_1, hx124_2⟩ := at_T41 HR0_1.out (ji13) p124 q124; obtain rfl : ad122 = ad124 := (by injection e124); replace hx124_0 := (HB.out.cell (World.block_lt_of_cell? w _ hx124_0)).trans hx124_0; replace hx124_1 := (HB.out.cell (World.block_lt_of_cell? w _ hx124_1)).trans hx124_1; replace hx124_2 := (HB.out.cell (World.block_lt_of_cell? w _ hx124_2)).trans hx124_2; replace p124 := eq_true p124; replace q124 := eq_true q124; have p125 : 0 ≤ (x3_2 : Int) := of_decide_eq_true (by first | (with_reducible assumption) | assumption); have q125 : x3_2 < (l0_1.length : Int) := of_decide_eq_true (by first | (with_reducible assumption) | assumption); obtain ⟨ad125, e125, hx125_0, hx125_1, hx125_2⟩ := at_T41 HR0_1.out x3_2 p125 q125; obtain rfl : ad122 = ad125 := (by injection e125); replace hx125_0 := (HB.out.cell (World.block_lt_of_cell? w _ hx125_0)).trans hx125_0; replace hx125_1 := (HB.out.cell (World.block_lt_of_cell? w _ hx125_1)).trans hx125_1; replace hx125_2 := (HB.out.cell (World.block_lt_of_cell? w _ hx125_2)).trans hx125_2; replace p125 := eq_true p125; replace q125 := eq_true q125))
                          repeat (go_quiet (first | (go_at_call 13; (with_reducible refine (tallystickref15_name.calls ((rd_T41 l0_1 x3_2).f0) true _ A10.out).mono ?_); rintro e w' ⟨rfl, ⟨nd, rfl⟩⟩; (try first | exact ⟨rfl, _, World.drewN_drewN _ _ _⟩ | exact ⟨rfl, _, Eq.trans (World.drewN_drewN _ _ _) (congrArg (World.drewN _) (Nat.add_assoc _ _ _))⟩); have p124 : 0 ≤ ((ji13) : Int) := of_decide_eq_true (by first | (with_reducible assumption) | assumption); have q124 : (ji13) < (l0_1.length : Int) := of_decide_eq_true (by first | (with_reducible assumption) | assumption); obtain ⟨ad124, e124, hx124_0, hx124_1, hx124_2⟩ := at_T41 HR0_1.out (ji13) p124 q124; obtain rfl : ad122 = ad124 := (by injection e124); replace hx124_0 := (HB.out.cell (World.block_lt_of_cell? w _ hx124_0)).trans hx124_0; replace hx124_1 := (HB.out.cell (World.block_lt_of_cell? w _ hx124_1)).trans hx124_1; replace hx124_2 := (HB.out.cell (World.block_lt_of_cell? w _ hx124_2)).trans hx124_2; replace p124 := eq_true p124; replace q124 := eq_true q124; have p125 : 0 ≤ (x3_2 : Int) := of_decide_eq_true (by first | (with_reducible assumption) | assumption); have q125 : x3_2 < (l0_1.length : Int) := of_decide_eq_true (by first | (with_reducible assumption) | assumption); obtain ⟨ad125, e125, hx125_0, hx125_1, hx125_2⟩ := at_T41 HR0_1.out x3_2 p125 q125; obtain rfl : ad122 = ad125 := (by injection e125); replace hx125_0 := (HB.out.cell (World.block_lt_of_cell? w _ hx125_0)).trans hx125_0; replace hx125_1 := (HB.out.cell (World.block_lt_of_cell? w _ hx125_1)).trans hx125_1; replace hx125_2 := (HB.out.cell (World.block_lt_of_cell? w _ hx125_2)).trans hx125_2; replace p125 := eq_true p125; replace q125 := eq_true q125)); try go_wp2_with (first | (go_at_call 13; (with_reducible refine (tallystickref15_name.calls ((rd_T41 l0_1 x3_2).f0) true _ A10.out).mono ?_); rintro e w' ⟨rfl, ⟨nd, rfl⟩⟩; (try first | exact ⟨rfl, _, World.drewN_drewN _ _ _⟩ | exact ⟨rfl, _, Eq.trans (World.drewN_drewN _ _ _) (congrArg (World.drewN _) (Nat.add_assoc _ _ _))⟩); have p124 : 0 ≤ ((ji13) : Int) := of_decide_eq_true (by first | (with_reducible assumption) | assumption); have q124 : (ji13) < (l0_1.length : Int) := of_decide_eq_true (by first | (with_reducible assumption) | assumption); obtain ⟨ad124, e124, hx124_0, hx124_1, hx124_2⟩ := at_T41 HR0_1.out (ji13) p124 q124; obtain rfl : ad122 = ad124 := (by injection e124); replace hx124_0 := (HB.out.cell (World.block_lt_of_cell? w _ hx124_0)).trans hx124_0; replace hx124_1 := (HB.out.cell (World.block_lt_of_cell? w _ hx124_1)).trans hx124_1; replace hx124_2 := (HB.out.cell (World.block_lt_of_cell? w _ hx124_2)).trans hx124_2; replace p124 := eq_true p124; replace q124 := eq_true q124; have p125 : 0 ≤ (x3_2 : Int) := of_decide_eq_true (by first | (with_reducible assumption) | assumption); have q125 : x3_2 < (l0_1.length : Int) := of_decide_eq_true (by first | (with_reducible assumption) | assumption); obtain ⟨ad125, e125, hx125_0, hx125_1, hx125_2⟩ := at_T41 HR0_1.out x3_2 p125 q125; obtain rfl : ad122 = ad125 := (by injection e125); replace hx125_0 := (HB.out.cell (World.block_lt_of_cell? w _ hx125_0)).trans hx125_0; replace hx125_1 := (HB.out.cell (World.block_lt_of_cell? w _ hx125_1)).trans hx125_1; replace hx125_2 := (HB.out.cell (World.block_lt_of_cell? w _ hx125_2)).trans hx125_2; replace p125 := eq_true p125; replace q125 := eq_true q125)))
                          go_ret
                          exact ⟨by first | rfl | (simp [errW_none, errW_some] <;> rfl) | (simp only [← hji13]; first | rfl | (simp [errW_none, errW_some] <;> rfl)) | (simp [*, errW_none, errW_some] <;> rfl), by repeat (first | (with_reducible first | exact HB.out | apply below_alloc | apply pw_below_drewN | apply below_drew1 | refine below_set ?_ GE121.out) | exact HB.out)⟩
                      · rw [if_neg c15] at H
                        exact absurd H (by simp)
                    · rw [if_neg c14] at H
                      exact absurd H (by simp)
                  · rw [if_neg c12] at H
                    have c12b0 : decide (0 < x3_2) = false := decide_eq_false c12
                    clear c12
                    have H' := Aside0.mk H
                    clear H
                    have hcz19_0 : wr.cell? ⟨gb121, 0, none⟩ = some (.int .i64 a0_0) := (blk_cell BK121.out 0).trans rfl
                    have hcz19_1 : wr.cell? ⟨gb121, 1, none⟩ = some (.slice A0_1 l0_1.length c0_1) := (blk_cell BK121.out 1).trans rfl
                    have hfz19_0 := blk_frozen BK121.out 0
                    have hfz19_1 := blk_frozen BK121.out 1
                    have p122 : 0 ≤ (x3_2 : Int) := of_decide_eq_true (by first | (with_reducible assumption) | assumption)
                    have q122 : x3_2 < (l0_1.length : Int) := of_decide_eq_true (by first | (with_reducible assumption) | assumption)
                    obtain ⟨ad122, e122, hx122_0, hx122_1, hx122_2⟩ := at_T41 HR0_1.out x3_2 p122 q122
                    cases e122
                    replace hx122_0 := (HB.out.cell (World.block_lt_of_cell? w _ hx122_0)).trans hx122_0
                    replace hx122_1 := (HB.out.cell (World.block_lt_of_cell? w _ hx122_1)).trans hx122_1
                    replace hx122_2 := (HB.out.cell (World.block_lt_of_cell? w _ hx122_2)).trans hx122_2
                    replace p122 := eq_true p122
                    replace q122 := eq_true q122
                    go_wp2_with (first | (go_at_call 13; (with_reducible refine (tallystickref15_name.calls ((rd_T41 l0_1 x3_2).f0) true _ A10.out).mono ?_); rintro e w' ⟨rfl, ⟨nd, rfl⟩⟩; (try first | exact ⟨rfl, _, World.drewN_drewN _ _ _⟩ | exact ⟨rfl, _, Eq.trans (World.drewN_drewN _ _ _) (congrArg (World.drewN _) (Nat.add_assoc _ _ _))⟩)))
                    repeat (go_quiet (first | (go_at_call 13; (with_reducible refine (tallystickref15_name.calls ((rd_T41 l0_1 x3_2).f0) true _ A10.out).mono ?_); rintro e w' ⟨rfl, ⟨nd, rfl⟩⟩; (try first | exact ⟨rfl, _, World.drewN_drewN _ _ _⟩ | exact ⟨rfl, _, Eq.trans (World.drewN_drewN _ _ _) (congrArg (World.drewN _) (Nat.add_assoc _ _ _))⟩))); try go_wp2_with (first | (go_at_call 13; (with_reducible refine (tallystickref15_name.calls ((rd_T41 l0_1 x3_2).f0) true _ A10.out).mono ?_); rintro e w' ⟨rfl, ⟨nd, rfl⟩⟩; (try first | exact ⟨rfl, _, World.drewN_drewN _ _ _⟩ | exact ⟨rfl, _, Eq.trans (World.drewN_drewN _ _ _) (congrArg (World.drewN _) (Nat.add_assoc _ _ _))⟩))))
                    go_roundg k2
                    case measure => have := HJ1.out; have := HK2.out; omega
                    case rel => exact ⟨(wrap64 (x3_2 + 1)), (by first | rfl | (simp; done) | (simp [*]; done)), H', ⟨by have := HJ1.out; have := HK2.out; omega⟩, ⟨by (with_reducible repeat (first | refine blk_drewN ?_ _ | refine blk_drew ?_ | refine blk_alloc ?_ _)); exact BK121.out⟩, ⟨by repeat (first | (with_reducible first | exact HB.out | apply below_alloc | apply pw_below_drewN | apply below_drew1 | refine below_set ?_ GE121.out) | exact HB.out)⟩⟩
                · replace c11 := Bool.eq_false_iff.mpr c11
                  subst c11
                  have H1 : (some false) = some r := by rw [if_neg (show ¬ (false = true) by decide)] at H; exact H
                  clear H
                  have H := H1
                  clear H1
                  obtain rfl := Option.some.inj H
                  have hcz20_0 : wr.cell? ⟨gb121, 0, none⟩ = some (.int .i64 a0_0) := (blk_cell BK121.out 0).trans rfl
                  have hcz20_1 : wr.cell? ⟨gb121, 1, none⟩ = some (.slice A0_1 l0_1.length c0_1) := (blk_cell BK121.out 1).trans rfl
                  have hfz20_0 := blk_frozen BK121.out 0
                  have hfz20_1 := blk_frozen BK121.out 1
                  have p122 : 0 ≤ (x3_2 : Int) := of_decide_eq_true (by first | (with_reducible assumption) | assumption)
                  have q122 : x3_2 < (l0_1.length : Int) := of_decide_eq_true (by first | (with_reducible assumption) | assumption)
                  obtain ⟨ad122, e122, hx122_0, hx122_1, hx122_2⟩ := at_T41 HR0_1.out x3_2 p122 q122
                  cases e122
                  replace hx122_0 := (HB.out.cell (World.block_lt_of_cell? w _ hx122_0)).trans hx122_0
                  replace hx122_1 := (HB.out.cell (World.block_lt_of_cell? w _ hx122_1)).trans hx122_1
                  replace hx122_2 := (HB.out.cell (World.block_lt_of_cell? w _ hx122_2)).trans hx122_2
                  replace p122 := eq_true p122
                  replace q122 := eq_true q122
                  go_wp2_with (first | (go_at_call 13; (with_reducible refine (tallystickref15_name.calls ((rd_T41 l0_1 x3_2).f0) false _ A10.out).mono ?_); rintro e w' ⟨rfl, ⟨nd, rfl⟩⟩; (try first | exact ⟨rfl, _, World.drewN_drewN _ _ _⟩ | exact ⟨rfl, _, Eq.trans (World.drewN_drewN _ _ _) (congrArg (World.drewN _) (Nat.add_assoc _ _ _))⟩)))
                  repeat (go_quiet (first | (go_at_call 13; (with_reducible refine (tallystickref15_name.calls ((rd_T41 l0_1 x3_2).f0) false _ A10.out).mono ?_); rintro e w' ⟨rfl, ⟨nd, rfl⟩⟩; (try first | exact ⟨rfl, _, World.drewN_drewN _ _ _⟩ | exact ⟨rfl, _, Eq.trans (World.drewN_drewN _ _ _) (congrArg (World.drewN _) (Nat.add_assoc _ _ _))⟩))); try go_wp2_with (first | (go_at_call 13; (with_reducible refine (tallystickref15_name.calls ((rd_T41 l0_1 x3_2).f0) false _ A10.out).mono ?_); rintro e w' ⟨rfl, ⟨nd, rfl⟩⟩; (try first | exact ⟨rfl, _, World.drewN_drewN _ _ _⟩ | exact ⟨rfl, _, Eq.trans (World.drewN_drewN _ _ _) (congrArg (World.drewN _) (Nat.add_assoc _ _ _))⟩))))
                  go_ret
                  exact ⟨by first | rfl | (simp [errW_none, errW_some] <;> rfl) | (simp [*, errW_none, errW_some] <;> rfl), by repeat (first | (with_reducible first | exact HB.out | apply below_alloc | apply pw_below_drewN | apply below_drew1 | refine below_set ?_ GE121.out) | exact HB.out)⟩
              · rw [if_neg c9] at H
                exact absurd H (by simp)
            · rw [if_neg c8] at H
              have c8b0 : decide (x3_2 < (l0_1.length : Int)) = false := decide_eq_false c8
              clear c8
              obtain rfl := Option.some.inj H
              have hcz21_0 : wr.cell? ⟨gb121, 0, none⟩ = some (.int .i64 a0_0) := (blk_cell BK121.out 0).trans rfl
              have hcz21_1 : wr.cell? ⟨gb121, 1, none⟩ = some (.slice A0_1 l0_1.length c0_1) := (blk_cell BK121.out 1).trans rfl
              have hfz21_0 := blk_frozen BK121.out 0
              have hfz21_1 := blk_frozen BK121.out 1
              go_wp2
              repeat (go_quiet (fail); try go_wp2)
              go_ret
              exact ⟨by first | rfl | (simp [errW_none, errW_some] <;> rfl) | (simp [*, errW_none, errW_some] <;> rfl), by repeat (first | (with_reducible first | exact HB.out | apply below_alloc | apply pw_below_drewN | apply below_drew1 | refine below_set ?_ GE121.out) | exact HB.out)⟩

end Go.Proofs.YtbpobnlkfpjijaaDoorR.Pr
end
