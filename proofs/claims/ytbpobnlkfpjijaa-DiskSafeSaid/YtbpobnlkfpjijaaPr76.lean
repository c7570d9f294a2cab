-- Laid by a program (wip/pr.sh), out of the translation.
import Derived.Test.YtbpobnlkfpjijaaPr0
import Derived.Test.YtbpobnlkfpjijaaPr64
import Derived.Test.YtbpobnlkfpjijaaPr67
import Derived.Test.YtbpobnlkfpjijaaGb
import Derived.Test.YtbpobnlkfpjijaaGf
namespace Go.Proofs.Ytbpobnlkfpjijaa.Pr
open Go.RowKit Go.Proofs.YtbpobnlkfpjijaaW.PrintWords Go.Proofs.YtbpobnlkfpjijaaW.PrintLast Go.Proofs.YtbpobnlkfpjijaaW.PrintMore
attribute [local go_sem] max2_int min2_int max_two min_two max_three min_three max_four min_four   -- for this text's walks alone
set_option linter.unusedVariables false
set_option linter.unusedSimpArgs false

attribute [local go_sem] Go.Proofs.Aid.cell_set_row
/-! ### disk_Write: function 27 -/
def disk_Write.j0 : Nat → ByteArray → ByteArray → Int → Bool → Int → Int → List (S55) → ByteArray → ByteArray → ByteArray → Option (Int × (List (S55)) × Int)
  | 0, _, _, _, _, _, _, _, _, _, _ => none
  | k + 1, x1, x2, x8, x9, x11, x580000, x580001, x584000, x584001, x584002 => (disk_Used.f k x580000 x580001).bind fun t585 => ((disk_name.f x1).bind fun t586 => (if t586 = true then (if x9 = true then (if (x2.size : Int) > (wrap64 (x580000 - (wrap64 (t585 - (x584001.size : Int))))) then (some (x580000, x580001, 8)) else ((api_File_50.f x580001 x8 x11 (([(⟨x584000, x2, x584002⟩ : S55)] : List (S55)))).bind fun t590 => (some (x580000, t590, 0)))) else (if (x580001.length : Int) ≥ 64 then (some (x580000, x580001, 8)) else (if (x2.size : Int) > (wrap64 (x580000 - (wrap64 (t585 - (x584001.size : Int))))) then (some (x580000, x580001, 8)) else ((api_File_50.f x580001 x8 x11 (([(⟨x584000, x2, x584002⟩ : S55)] : List (S55)))).bind fun t596 => (some (x580000, t596, 0)))))) else (some (x580000, x580001, 1))))
def disk_Write.f (k : Nat) (a0_0 : Int) (l0_1 : List (S55)) (a1 : ByteArray) (a2 : ByteArray) : Option (Int × (List (S55)) × Int) := (disk_at.f a0_0 l0_1 a1).bind fun bt581 => (if bt581.2 = true then (if 0 ≤ bt581.1 then (if bt581.1 < (l0_1.length : Int) then (disk_Write.j0 k a1 a2 bt581.1 bt581.2 1 a0_0 l0_1 ((rd_T55 l0_1 bt581.1).f0) ((rd_T55 l0_1 bt581.1).f1) ((rd_T55 l0_1 bt581.1).f2)) else (none)) else (none)) else (disk_Write.j0 k a1 a2 bt581.1 bt581.2 0 a0_0 l0_1 a1 (⟨#[]⟩ : ByteArray) (⟨#[]⟩ : ByteArray)))
theorem disk_Write.mono_l : ∀ k, (∀ y0 y1 y2 y3 y4 y5 y6 y7 y8 y9, LeO (disk_Write.j0 k y0 y1 y2 y3 y4 y5 y6 y7 y8 y9) (disk_Write.j0 (k + 1) y0 y1 y2 y3 y4 y5 y6 y7 y8 y9))
  | 0 => fun _ _ _ _ _ _ _ _ _ _ r h => by simp [disk_Write.j0] at h
  | k + 1 => by
    have ih0 := disk_Write.mono_l k
    · intro y0 y1 y2 y3 y4 y5 y6 y7 y8 y9
      unfold disk_Write.j0
      repeat' first
      | (with_reducible exact ih0 _ _ _ _ _ _ _ _ _ _)
      | (with_reducible exact disk_Used.mono _ _ _)
      | (with_reducible exact LeO.refl _)
      | (with_reducible exact LeO.none _)
      | (with_reducible refine LeO.ite ?_ ?_)
      | (with_reducible refine LeO.bind ?_ (fun _ => ?_))
      | exact ih0 _ _ _ _ _ _ _ _ _ _
      | exact disk_Used.mono _ _ _
      | exact LeO.none _
      | refine LeO.ite ?_ ?_
      | refine LeO.bind ?_ (fun _ => ?_)
theorem disk_Write.mono : ∀ a0 a1 a2 a3 k, LeO (disk_Write.f k a0 a1 a2 a3) (disk_Write.f (k + 1) a0 a1 a2 a3) := by
  intro a0 a1 a2 a3 k
  have ih0 := disk_Write.mono_l k
  unfold disk_Write.f
  repeat' first
      | (with_reducible exact ih0 _ _ _ _ _ _ _ _ _ _)
      | (with_reducible exact disk_Used.mono _ _ _)
      | (with_reducible exact LeO.refl _)
      | (with_reducible exact LeO.none _)
      | (with_reducible refine LeO.ite ?_ ?_)
      | (with_reducible refine LeO.bind ?_ (fun _ => ?_))
      | exact ih0 _ _ _ _ _ _ _ _ _ _
      | exact disk_Used.mono _ _ _
      | exact LeO.none _
      | refine LeO.ite ?_ ?_
      | refine LeO.bind ?_ (fun _ => ?_)
set_option maxHeartbeats 8000000 in
set_option maxRecDepth 100000 in
theorem disk_Write.calls (k : Nat) (a0_0 : Int) (P0_1_ : Nat → Prop) (A0_1 : Option Addr) (c0_1 : Nat) (l0_1 : List (S55)) (a1 : ByteArray) (a2 : ByteArray) (r1 : Int) (r2 : List (S55)) (r3 : Int) (w : World) (hs0_1 : Kd.V k55 55 w w.heap.size (fun k_ => P0_1_ k_) (.slice A0_1 l0_1.length c0_1) l0_1) (h : disk_Write.f k a0_0 l0_1 a1 a2 = some (r1, r2, r3)) :
    Calls Try.prog 27 #[.agg #[.int .i64 a0_0, .slice A0_1 l0_1.length c0_1], .string a1, .string a2] w fun e w' => ∃ v1_ : Value, e = .returned (.tuple #[.agg #[.int .i64 r1, v1_], .int .i64 r3]) ∧ Kd.V k55 55 w' w.heap.size (fun k_ => (P0_1_ k_ ∨ w.heap.size ≤ k_)) v1_ r2 ∧ Below w.heap.size w w' := by
  have hu46 := Try.underlying46
  have hu55 := Try.underlying55
  have HO0_1 := Aside0.mk (show Kd.V k55 55 w w.heap.size (fun k_ => (P0_1_ k_ ∨ w.heap.size ≤ k_)) (.slice A0_1 l0_1.length c0_1) l0_1 from Kd.V_mono hs0_1 (fun k_ hk => .inl hk))
  have HB := Aside0.mk (Below.refl w.heap.size w)
  have H : ((disk_at.f a0_0 l0_1 a1).bind fun bt581 => (if bt581.2 = true then (if 0 ≤ bt581.1 then (if bt581.1 < (l0_1.length : Int) then (disk_Write.j0 k a1 a2 bt581.1 bt581.2 1 a0_0 l0_1 ((rd_T55 l0_1 bt581.1).f0) ((rd_T55 l0_1 bt581.1).f1) ((rd_T55 l0_1 bt581.1).f2)) else (none)) else (none)) else (disk_Write.j0 k a1 a2 bt581.1 bt581.2 0 a0_0 l0_1 a1 (⟨#[]⟩ : ByteArray) (⟨#[]⟩ : ByteArray)))) = some (r1, r2, r3) := h
  clear h
  replace H := Option.bind_eq_some_iff.mp H
  obtain ⟨⟨t581, t582⟩, A40, H⟩ := H
  replace H : (if t582 = true then (if 0 ≤ t581 then (if t581 < (l0_1.length : Int) then (disk_Write.j0 k a1 a2 t581 t582 1 a0_0 l0_1 ((rd_T55 l0_1 t581).f0) ((rd_T55 l0_1 t581).f1) ((rd_T55 l0_1 t581).f2)) else (none)) else (none)) else (disk_Write.j0 k a1 a2 t581 t582 0 a0_0 l0_1 a1 (⟨#[]⟩ : ByteArray) (⟨#[]⟩ : ByteArray))) = some (r1, r2, r3) := H
  have A4 := Aside0.mk A40
  clear A40
  have HC5 := Aside0.mk H
  clear H
  go_enter Try.func27, Try.ntmps27
  go_upto_if 21 with (first | ((with_reducible refine gate_dst (N := 3) rfl ?_); (try (refine gate_guard (by rfl) ?_; dsimp only)); refine box_event ?hg (N := 3) ?hd (cs := #[.int .i64 a0_0, .slice A0_1 l0_1.length c0_1]) (t := 46) ?hr ?_; (case hd => rfl); (case hg => rfl); (case hr => first | (go_simp; done) | (go_simp; rfl)); intro gb579 hg w6 hbox hb; have n0_ := Aside0.mk (Kd.V_below (Kd.V_elderB (by (with_reducible repeat (first | apply Kd.V_alloc | apply Kd.V_drewN | apply Kd.V_drew)); exact HO0_1.out) gb579 (Nat.le_of_eq hg.symm)) hb); have n1_ := Aside0.mk (below_step (by repeat (first | (with_reducible first | exact HB.out | apply below_alloc | apply pw_below_drewN | apply below_drew1) | exact HB.out)) hb); have n2_ := Aside0.mk (hbox); have n3_ := Aside0.mk ((by rw [hg]; exact (below_size (by repeat (first | (with_reducible first | exact HB.out | apply below_alloc | apply pw_below_drewN | apply below_drew1) | exact HB.out))) : w.heap.size ≤ gb579)); have n4_ := Aside0.mk ((by rw [hg]; exact (below_size (by repeat (first | (with_reducible first | exact HB.out | apply below_alloc | apply pw_below_drewN | apply below_drew1) | exact HB.out))) : w.heap.size ≤ gb579)); clear HO0_1; clear HB; have HO0_1 := n0_; have HB := n1_; have BK579 := n2_; have GW579 := n3_; have GE579 := n4_; clear n0_ n1_ n2_ n3_ n4_; clear hb hbox hg) | ((with_reducible refine gate_dst (N := 6) rfl ?_); (try (refine gate_guard (by rfl) ?_; dsimp only)); refine box_event ?hg (N := 6) ?hd (cs := #[.int .i64 0, .slice none 0 0]) (t := 46) ?hr ?_; (case hd => rfl); (case hg => rfl); (case hr => first | (go_simp; done) | (go_simp; rfl)); intro gb580 hg w7 hbox hb; have n0_ := Aside0.mk (Kd.V_below (Kd.V_elderB (by (with_reducible repeat (first | apply Kd.V_alloc | apply Kd.V_drewN | apply Kd.V_drew)); exact HO0_1.out) gb580 (Nat.le_of_eq hg.symm)) hb); have n1_ := Aside0.mk (blk_below (g := gb579) (o := .cells #[.int .i64 a0_0, .slice A0_1 l0_1.length c0_1] 46 (0, 0)) (by (with_reducible repeat (first | refine blk_drewN ?_ _ | refine blk_drew ?_ | refine blk_alloc ?_ _)); exact BK579.out) hb); have n2_ := Aside0.mk (below_step (by repeat (first | (with_reducible first | exact HB.out | apply below_alloc | apply pw_below_drewN | apply below_drew1 | refine below_set ?_ GE579.out) | exact HB.out)) hb); have n3_ := Aside0.mk (hbox); have n4_ := Aside0.mk ((by rw [hg]; exact (below_size (by repeat (first | (with_reducible first | exact HB.out | apply below_alloc | apply pw_below_drewN | apply below_drew1 | refine below_set ?_ GE579.out) | exact HB.out))) : w.heap.size ≤ gb580)); have n5_ := Aside0.mk ((by rw [hg]; exact (below_size (by repeat (first | (with_reducible first | exact HB.out | apply below_alloc | apply pw_below_drewN | apply below_drew1 | refine below_set ?_ GE579.out) | exact HB.out))) : w.heap.size ≤ gb580)); have n6_ := Aside0.mk ((by rw [hg]; exact Nat.ne_of_lt (blk_lt (g := gb579) (o := .cells #[.int .i64 a0_0, .slice A0_1 l0_1.length c0_1] 46 (0, 0)) (by (with_reducible repeat (first | refine blk_drewN ?_ _ | refine blk_drew ?_ | refine blk_alloc ?_ _)); exact BK579.out)) : gb579 ≠ gb580)); have n7_ := Aside0.mk ((by rw [hg]; exact Nat.ne_of_gt (blk_lt (g := gb579) (o := .cells #[.int .i64 a0_0, .slice A0_1 l0_1.length c0_1] 46 (0, 0)) (by (with_reducible repeat (first | refine blk_drewN ?_ _ | refine blk_drew ?_ | refine blk_alloc ?_ _)); exact BK579.out)) : gb580 ≠ gb579)); clear HO0_1; clear BK579; clear HB; have HO0_1 := n0_; have BK579 := n1_; have HB := n2_; have BK580 := n3_; have GW580 := n4_; have GE580 := n5_; have NB579_580 := n6_; have NB580_579 := n7_; clear n0_ n1_ n2_ n3_ n4_ n5_ n6_ n7_; clear hb hbox hg; have hnb8 := NB579_580.out; have hnc8 := NB580_579.out; have hcz9_0 : w7.cell? ⟨gb579, 0, none⟩ = some (.int .i64 a0_0) := (blk_cell BK579.out 0).trans rfl; have hcz9_1 : w7.cell? ⟨gb579, 1, none⟩ = some (.slice A0_1 l0_1.length c0_1) := (blk_cell BK579.out 1).trans rfl; have hfz9_0 := blk_frozen BK579.out 0; have hfz9_1 := blk_frozen BK579.out 1) | ((with_reducible refine gate_callee (f := 48) rfl ?_); refine goesL_ (some 16) rfl rfl Try.func48 (by kernel_rfl) rfl #[.agg #[.int .i64 a0_0, .slice A0_1 l0_1.length c0_1], .string a1] rfl (by (try simp only [List.map_toArray, List.map_cons, List.map_nil]); first | done | rfl | (simp only [List.length_drop, List.length_take]; rfl)) ?_; (with_reducible refine (disk_at.calls a0_0 _ _ l0_1 a1 t581 t582 _ ?side1 ?side2 A4.out).mono ?_); (case side1 => repeat (first | exact (Kd.V_reads' HO0_1.out).2.2 | (with_reducible refine Kd.C_alloc ?_ _) | (with_reducible refine Kd.C_drewN ?_ _) | (with_reducible refine Kd.C_drew ?_))); (case side2 => exact (Kd.V_reads' HO0_1.out).2.1); rintro e w10 ⟨rfl, hb⟩; refine ⟨_, rfl, ?_⟩; have n0_ := Aside0.mk (Kd.V_below (by (with_reducible repeat (first | apply Kd.V_alloc | apply Kd.V_drewN | apply Kd.V_drew)); exact HO0_1.out) hb); have n1_ := Aside0.mk (blk_below (g := gb579) (o := .cells #[.int .i64 a0_0, .slice A0_1 l0_1.length c0_1] 46 (0, 0)) (by (with_reducible repeat (first | refine blk_drewN ?_ _ | refine blk_drew ?_ | refine blk_alloc ?_ _)); exact BK579.out) hb); have n2_ := Aside0.mk (blk_below (g := gb580) (o := .cells #[.int .i64 0, .slice none 0 0] 46 (0, 0)) (by (with_reducible repeat (first | refine blk_drewN ?_ _ | refine blk_drew ?_ | refine blk_alloc ?_ _)); exact BK580.out) hb); have n3_ := Aside0.mk (below_step (by repeat (first | (with_reducible first | exact HB.out | apply below_alloc | apply pw_below_drewN | apply below_drew1 | refine below_set ?_ GE579.out | refine below_set ?_ GE580.out) | exact HB.out)) hb); clear HO0_1; clear BK579; clear BK580; clear HB; have HO0_1 := n0_; have BK579 := n1_; have BK580 := n2_; have HB := n3_; clear n0_ n1_ n2_ n3_; (try clear hb); (try clear hb2); (try clear hk); (try clear hi)) | ((with_reducible refine gate_dst (N := 10) rfl ?_); (try (refine gate_guard (by rfl) ?_; dsimp only)); refine box_event ?hg (N := 10) ?hd (cs := #[.string (⟨#[]⟩ : ByteArray), .string (⟨#[]⟩ : ByteArray), .string (⟨#[]⟩ : ByteArray)]) (t := 55) ?hr ?_; (case hd => rfl); (case hg => rfl); (case hr => first | (go_simp; done) | (go_simp; rfl)); intro gb583 hg w11 hbox hb; have n0_ := Aside0.mk (Kd.V_below (Kd.V_elderB (by (with_reducible repeat (first | apply Kd.V_alloc | apply Kd.V_drewN | apply Kd.V_drew)); exact HO0_1.out) gb583 (Nat.le_of_eq hg.symm)) hb); have n1_ := Aside0.mk (blk_below (g := gb579) (o := .cells #[.int .i64 a0_0, .slice A0_1 l0_1.length c0_1] 46 (0, 0)) (by (with_reducible repeat (first | refine blk_drewN ?_ _ | refine blk_drew ?_ | refine blk_alloc ?_ _)); exact BK579.out) hb); have n2_ := Aside0.mk (blk_below (g := gb580) (o := .cells #[.int .i64 0, .slice none 0 0] 46 (0, 0)) (by (with_reducible repeat (first | refine blk_drewN ?_ _ | refine blk_drew ?_ | refine blk_alloc ?_ _)); exact BK580.out) hb); have n3_ := Aside0.mk (below_step (by repeat (first | (with_reducible first | exact HB.out | apply below_alloc | apply pw_below_drewN | apply below_drew1 | refine below_set ?_ GE579.out | refine below_set ?_ GE580.out) | exact HB.out)) hb); have n4_ := Aside0.mk (hbox); have n5_ := Aside0.mk ((by rw [hg]; exact (below_size (by repeat (first | (with_reducible first | exact HB.out | apply below_alloc | apply pw_below_drewN | apply below_drew1 | refine below_set ?_ GE579.out | refine below_set ?_ GE580.out) | exact HB.out))) : w.heap.size ≤ gb583)); have n6_ := Aside0.mk ((by rw [hg]; exact (below_size (by repeat (first | (with_reducible first | exact HB.out | apply below_alloc | apply pw_below_drewN | apply below_drew1 | refine below_set ?_ GE579.out | refine below_set ?_ GE580.out) | exact HB.out))) : w.heap.size ≤ gb583)); have n7_ := Aside0.mk ((by rw [hg]; exact Nat.ne_of_lt (blk_lt (g := gb579) (o := .cells #[.int .i64 a0_0, .slice A0_1 l0_1.length c0_1] 46 (0, 0)) (by (with_reducible repeat (first | refine blk_drewN ?_ _ | refine blk_drew ?_ | refine blk_alloc ?_ _)); exact BK579.out)) : gb579 ≠ gb583)); have n8_ := Aside0.mk ((by rw [hg]; exact Nat.ne_of_gt (blk_lt (g := gb579) (o := .cells #[.int .i64 a0_0, .slice A0_1 l0_1.length c0_1] 46 (0, 0)) (by (with_reducible repeat (first | refine blk_drewN ?_ _ | refine blk_drew ?_ | refine blk_alloc ?_ _)); exact BK579.out)) : gb583 ≠ gb579)); have n9_ := Aside0.mk ((by rw [hg]; exact Nat.ne_of_lt (blk_lt (g := gb580) (o := .cells #[.int .i64 0, .slice none 0 0] 46 (0, 0)) (by (with_reducible repeat (first | refine blk_drewN ?_ _ | refine blk_drew ?_ | refine blk_alloc ?_ _)); exact BK580.out)) : gb580 ≠ gb583)); have n10_ := Aside0.mk ((by rw [hg]; exact Nat.ne_of_gt (blk_lt (g := gb580) (o := .cells #[.int .i64 0, .slice none 0 0] 46 (0, 0)) (by (with_reducible repeat (first | refine blk_drewN ?_ _ | refine blk_drew ?_ | refine blk_alloc ?_ _)); exact BK580.out)) : gb583 ≠ gb580)); clear HO0_1; clear BK579; clear BK580; clear HB; have HO0_1 := n0_; have BK579 := n1_; have BK580 := n2_; have HB := n3_; have BK583 := n4_; have GW583 := n5_; have GE583 := n6_; have NB579_583 := n7_; have NB583_579 := n8_; have NB580_583 := n9_; have NB583_580 := n10_; clear n0_ n1_ n2_ n3_ n4_ n5_ n6_ n7_ n8_ n9_ n10_; clear hb hbox hg; have hnb12 := NB583_579.out; have hnc12 := NB579_583.out; have hnb13 := NB583_580.out; have hnc13 := NB580_583.out; have hcz14_0 : w11.cell? ⟨gb583, 0, none⟩ = some (.string (⟨#[]⟩ : ByteArray)) := (blk_cell BK583.out 0).trans rfl; have hcz14_1 : w11.cell? ⟨gb583, 1, none⟩ = some (.string (⟨#[]⟩ : ByteArray)) := (blk_cell BK583.out 1).trans rfl; have hcz14_2 : w11.cell? ⟨gb583, 2, none⟩ = some (.string (⟨#[]⟩ : ByteArray)) := (blk_cell BK583.out 2).trans rfl; have hfz14_0 := blk_frozen BK583.out 0; have hfz14_1 := blk_frozen BK583.out 1; have hfz14_2 := blk_frozen BK583.out 2))
  (try simp only [Act.put, List.setIfInBounds_toArray, List.set_cons_zero, List.set_cons_succ])
  go_cut [11] (fun v11 wc => ∃ (kq : Nat) (x11_4 : Int) (x584000_4 : ByteArray) (x584001_4 : ByteArray) (x584002_4 : ByteArray), v11 = .int .i64 x11_4 ∧ Aside0 (disk_Write.j0 kq a1 a2 t581 t582 x11_4 a0_0 l0_1 x584000_4 x584001_4 x584002_4 = some (r1, r2, r3)) ∧ Aside0 (kq ≤ k) ∧ Aside0 (Kd.V k55 55 wc w.heap.size (fun k_ => (P0_1_ k_ ∨ w.heap.size ≤ k_) ∧ k_ ≠ gb579 ∧ k_ ≠ gb580 ∧ k_ ≠ gb583) (.slice A0_1 l0_1.length c0_1) l0_1) ∧ Aside0 (wc.heap[gb579]? = some (.cells #[.int .i64 a0_0, (.slice A0_1 l0_1.length c0_1)] 46 (0, 0))) ∧ Aside0 (wc.heap[gb580]? = some (.cells #[.int .i64 0, (.slice none 0 0)] 46 (0, 0))) ∧ Aside0 (wc.heap[gb583]? = some (.cells #[.string x584000_4, .string x584001_4, .string x584002_4] 55 (0, 0))) ∧ Aside0 (Below w.heap.size w wc))
  case first =>
    have H := HC5.out
    clear HC5
    by_cases c15 : t582 = true
    · subst c15
      have H1 : (if 0 ≤ t581 then (if t581 < (l0_1.length : Int) then (disk_Write.j0 k a1 a2 t581 true 1 a0_0 l0_1 ((rd_T55 l0_1 t581).f0) ((rd_T55 l0_1 t581).f1) ((rd_T55 l0_1 t581).f2)) else (none)) else (none)) = some (r1, r2, r3) := by rw [if_pos rfl] at H; exact H
      clear H
      have H := H1
      clear H1
      by_cases c16 : 0 ≤ t581
      · rw [if_pos c16] at H
        have c16b0 : decide (0 ≤ t581) = true := decide_eq_true c16
        clear c16
        (first | rw [c16b0] | (simp only [i64_w, i32_w]; rw [c16b0]) | skip)
        by_cases c17 : t581 < (l0_1.length : Int)
        · rw [if_pos c17] at H
          have c17b0 : decide (t581 < (l0_1.length : Int)) = true := decide_eq_true c17
          clear c17
          have H' := Aside0.mk H
          clear H
          have hnb18 := NB579_580.out
          have hnc18 := NB580_579.out
          have hnb19 := NB579_583.out
          have hnc19 := NB583_579.out
          have hcz20_0 : w11.cell? ⟨gb579, 0, none⟩ = some (.int .i64 a0_0) := (blk_cell BK579.out 0).trans rfl
          have hcz20_1 : w11.cell? ⟨gb579, 1, none⟩ = some (.slice A0_1 l0_1.length c0_1) := (blk_cell BK579.out 1).trans rfl
          have hfz20_0 := blk_frozen BK579.out 0
          have hfz20_1 := blk_frozen BK579.out 1
          have p584 : 0 ≤ (t581 : Int) := of_decide_eq_true (by first | (with_reducible assumption) | assumption)
          have q584 : t581 < (l0_1.length : Int) := of_decide_eq_true (by first | (with_reducible assumption) | assumption)
          obtain ⟨ad584, e584, hx584_0, hx584_1, hx584_2⟩ := at_T55 (Kd.V_reads' HO0_1.out).2.2 t581 p584 q584
          cases e584
          have hn584_0 : ad584.block ≠ gb583 := (Go.Proofs.Aid.V_block HO0_1.out _ p584 q584 (by decide)).2
          have hn584_1 : ad584.block ≠ gb583 := (Go.Proofs.Aid.V_block HO0_1.out _ p584 q584 (by decide)).2
          have hn584_2 : ad584.block ≠ gb583 := (Go.Proofs.Aid.V_block HO0_1.out _ p584 q584 (by decide)).2
          replace hx584_0 := (cell_far (p := ⟨gb583, 0, none⟩) (by first | (rw [add_block]; exact hn584_0) | (show (Addr.add _ _).block ≠ _; rw [add_block]; exact hn584_0) | exact hn584_0) (.string a1)).trans hx584_0
          replace hx584_1 := (cell_far (p := ⟨gb583, 0, none⟩) (by first | (rw [add_block]; exact hn584_0) | (show (Addr.add _ _).block ≠ _; rw [add_block]; exact hn584_0) | exact hn584_0) (.string a1)).trans hx584_1
          replace hx584_2 := (cell_far (p := ⟨gb583, 0, none⟩) (by first | (rw [add_block]; exact hn584_0) | (show (Addr.add _ _).block ≠ _; rw [add_block]; exact hn584_0) | exact hn584_0) (.string a1)).trans hx584_2
          replace hx584_0 := (cell_far (p := ⟨gb583, 1, none⟩) (by first | (rw [add_block]; exact hn584_1) | (show (Addr.add _ _).block ≠ _; rw [add_block]; exact hn584_1) | exact hn584_1) (.string (⟨#[]⟩ : ByteArray))).trans hx584_0
          replace hx584_1 := (cell_far (p := ⟨gb583, 1, none⟩) (by first | (rw [add_block]; exact hn584_1) | (show (Addr.add _ _).block ≠ _; rw [add_block]; exact hn584_1) | exact hn584_1) (.string (⟨#[]⟩ : ByteArray))).trans hx584_1
          replace hx584_2 := (cell_far (p := ⟨gb583, 1, none⟩) (by first | (rw [add_block]; exact hn584_1) | (show (Addr.add _ _).block ≠ _; rw [add_block]; exact hn584_1) | exact hn584_1) (.string (⟨#[]⟩ : ByteArray))).trans hx584_2
          replace hx584_0 := (cell_far (p := ⟨gb583, 2, none⟩) (by first | (rw [add_block]; exact hn584_2) | (show (Addr.add _ _).block ≠ _; rw [add_block]; exact hn584_2) | exact hn584_2) (.string (⟨#[]⟩ : ByteArray))).trans hx584_0
          replace hx584_1 := (cell_far (p := ⟨gb583, 2, none⟩) (by first | (rw [add_block]; exact hn584_2) | (show (Addr.add _ _).block ≠ _; rw [add_block]; exact hn584_2) | exact hn584_2) (.string (⟨#[]⟩ : ByteArray))).trans hx584_1
          replace hx584_2 := (cell_far (p := ⟨gb583, 2, none⟩) (by first | (rw [add_block]; exact hn584_2) | (show (Addr.add _ _).block ≠ _; rw [add_block]; exact hn584_2) | exact hn584_2) (.string (⟨#[]⟩ : ByteArray))).trans hx584_2
          clear hn584_0
          clear hn584_1
          clear hn584_2
          replace p584 := eq_true p584
          replace q584 := eq_true q584
          have hnb21 := NB583_580.out
          have hnc21 := NB580_583.out
          have hcz22_0 : w11.cell? ⟨gb583, 0, none⟩ = some (.string (⟨#[]⟩ : ByteArray)) := (blk_cell BK583.out 0).trans rfl
          have hcz22_1 : w11.cell? ⟨gb583, 1, none⟩ = some (.string (⟨#[]⟩ : ByteArray)) := (blk_cell BK583.out 1).trans rfl
          have hcz22_2 : w11.cell? ⟨gb583, 2, none⟩ = some (.string (⟨#[]⟩ : ByteArray)) := (blk_cell BK583.out 2).trans rfl
          have hfz22_0 := blk_frozen BK583.out 0
          have hfz22_1 := blk_frozen BK583.out 1
          have hfz22_2 := blk_frozen BK583.out 2
          go_wp2
          go_meet
          case rel => exact ⟨_, (1), ((rd_T55 l0_1 t581).f0), ((rd_T55 l0_1 t581).f1), ((rd_T55 l0_1 t581).f2), (by first | rfl | (simp; done) | (simp [*]; done)), H', ⟨by first | omega | exact Nat.le_refl _⟩, ⟨by (with_reducible repeat (first | apply Kd.V_alloc | apply Kd.V_drewN | apply Kd.V_drew)); exact Kd.V_mono (Kd.V_far (p := ⟨gb583, 2, none⟩) (Kd.V_far (p := ⟨gb583, 1, none⟩) (Kd.V_far (p := ⟨gb583, 0, none⟩) (Kd.V_far (p := ⟨gb583, 2, none⟩) (Kd.V_far (p := ⟨gb583, 1, none⟩) (Kd.V_far (p := ⟨gb583, 0, none⟩) (Kd.V_mono HO0_1.out (fun k_ hk => (⟨hk, hk.2⟩ : _ ∧ k_ ≠ gb583))) (fun _ hk => hk.2) (.string a1)) (fun _ hk => hk.2) (.string (⟨#[]⟩ : ByteArray))) (fun _ hk => hk.2) (.string (⟨#[]⟩ : ByteArray))) (fun _ hk => hk.2) (.string ((rd_T55 l0_1 t581).f0))) (fun _ hk => hk.2) (.string ((rd_T55 l0_1 t581).f1))) (fun _ hk => hk.2) (.string ((rd_T55 l0_1 t581).f2))) (fun _ hk => ⟨hk.1.1.1.1, ⟨hk.1.1.1.2, ⟨hk.1.1.2, hk.1.2⟩⟩⟩)⟩, ⟨by (with_reducible repeat (first | refine blk_drewN ?_ _ | refine blk_drew ?_ | refine blk_alloc ?_ _)); refine blk_far ?_ NB579_583.out _; (with_reducible repeat (first | refine blk_drewN ?_ _ | refine blk_drew ?_ | refine blk_alloc ?_ _)); refine blk_far ?_ NB579_583.out _; (with_reducible repeat (first | refine blk_drewN ?_ _ | refine blk_drew ?_ | refine blk_alloc ?_ _)); refine blk_far ?_ NB579_583.out _; (with_reducible repeat (first | refine blk_drewN ?_ _ | refine blk_drew ?_ | refine blk_alloc ?_ _)); refine blk_far ?_ NB579_583.out _; (with_reducible repeat (first | refine blk_drewN ?_ _ | refine blk_drew ?_ | refine blk_alloc ?_ _)); refine blk_far ?_ NB579_583.out _; (with_reducible repeat (first | refine blk_drewN ?_ _ | refine blk_drew ?_ | refine blk_alloc ?_ _)); refine blk_far ?_ NB579_583.out _; (with_reducible repeat (first | refine blk_drewN ?_ _ | refine blk_drew ?_ | refine blk_alloc ?_ _)); exact BK579.out⟩, ⟨by (with_reducible repeat (first | refine blk_drewN ?_ _ | refine blk_drew ?_ | refine blk_alloc ?_ _)); refine blk_far ?_ NB580_583.out _; (with_reducible repeat (first | refine blk_drewN ?_ _ | refine blk_drew ?_ | refine blk_alloc ?_ _)); refine blk_far ?_ NB580_583.out _; (with_reducible repeat (first | refine blk_drewN ?_ _ | refine blk_drew ?_ | refine blk_alloc ?_ _)); refine blk_far ?_ NB580_583.out _; (with_reducible repeat (first | refine blk_drewN ?_ _ | refine blk_drew ?_ | refine blk_alloc ?_ _)); refine blk_far ?_ NB580_583.out _; (with_reducible repeat (first | refine blk_drewN ?_ _ | refine blk_drew ?_ | refine blk_alloc ?_ _)); refine blk_far ?_ NB580_583.out _; (with_reducible repeat (first | refine blk_drewN ?_ _ | refine blk_drew ?_ | refine blk_alloc ?_ _)); refine blk_far ?_ NB580_583.out _; (with_reducible repeat (first | refine blk_drewN ?_ _ | refine blk_drew ?_ | refine blk_alloc ?_ _)); exact BK580.out⟩, ⟨by (with_reducible repeat (first | refine blk_drewN ?_ _ | refine blk_drew ?_ | refine blk_alloc ?_ _)); refine blk_put (cs := #[.string ((rd_T55 l0_1 t581).f0), .string ((rd_T55 l0_1 t581).f1), .string (⟨#[]⟩ : ByteArray)]) ?_ 2 _ rfl; (with_reducible repeat (first | refine blk_drewN ?_ _ | refine blk_drew ?_ | refine blk_alloc ?_ _)); refine blk_put (cs := #[.string ((rd_T55 l0_1 t581).f0), .string (⟨#[]⟩ : ByteArray), .string (⟨#[]⟩ : ByteArray)]) ?_ 1 _ rfl; (with_reducible repeat (first | refine blk_drewN ?_ _ | refine blk_drew ?_ | refine blk_alloc ?_ _)); refine blk_put (cs := #[.string a1, .string (⟨#[]⟩ : ByteArray), .string (⟨#[]⟩ : ByteArray)]) ?_ 0 _ rfl; (with_reducible repeat (first | refine blk_drewN ?_ _ | refine blk_drew ?_ | refine blk_alloc ?_ _)); refine blk_put (cs := #[.string a1, .string (⟨#[]⟩ : ByteArray), .string (⟨#[]⟩ : ByteArray)]) ?_ 2 _ rfl; (with_reducible repeat (first | refine blk_drewN ?_ _ | refine blk_drew ?_ | refine blk_alloc ?_ _)); refine blk_put (cs := #[.string a1, .string (⟨#[]⟩ : ByteArray), .string (⟨#[]⟩ : ByteArray)]) ?_ 1 _ rfl; (with_reducible repeat (first | refine blk_drewN ?_ _ | refine blk_drew ?_ | refine blk_alloc ?_ _)); refine blk_put (cs := #[.string (⟨#[]⟩ : ByteArray), .string (⟨#[]⟩ : ByteArray), .string (⟨#[]⟩ : ByteArray)]) ?_ 0 _ rfl; (with_reducible repeat (first | refine blk_drewN ?_ _ | refine blk_drew ?_ | refine blk_alloc ?_ _)); exact BK583.out⟩, ⟨by repeat (first | (with_reducible first | exact HB.out | apply below_alloc | apply pw_below_drewN | apply below_drew1 | refine below_set ?_ GE579.out | refine below_set ?_ GE580.out | refine below_set ?_ GE583.out) | exact HB.out)⟩⟩
        · rw [if_neg c17] at H
          exact absurd H (by simp)
      · rw [if_neg c16] at H
        exact absurd H (by simp)
    · replace c15 := Bool.eq_false_iff.mpr c15
      subst c15
      have H1 : (disk_Write.j0 k a1 a2 t581 false 0 a0_0 l0_1 a1 (⟨#[]⟩ : ByteArray) (⟨#[]⟩ : ByteArray)) = some (r1, r2, r3) := by rw [if_neg (show ¬ (false = true) by decide)] at H; exact H
      clear H
      have H := H1
      clear H1
      have H' := Aside0.mk H
      clear H
      go_wp2
      go_meet
      case rel => exact ⟨_, (0), (a1), ((⟨#[]⟩ : ByteArray)), ((⟨#[]⟩ : ByteArray)), (by first | rfl | (simp; done) | (simp [*]; done)), H', ⟨by first | omega | exact Nat.le_refl _⟩, ⟨by (with_reducible repeat (first | apply Kd.V_alloc | apply Kd.V_drewN | apply Kd.V_drew)); exact Kd.V_mono (Kd.V_far (p := ⟨gb583, 2, none⟩) (Kd.V_far (p := ⟨gb583, 1, none⟩) (Kd.V_far (p := ⟨gb583, 0, none⟩) (Kd.V_mono HO0_1.out (fun k_ hk => (⟨hk, hk.2⟩ : _ ∧ k_ ≠ gb583))) (fun _ hk => hk.2) (.string a1)) (fun _ hk => hk.2) (.string (⟨#[]⟩ : ByteArray))) (fun _ hk => hk.2) (.string (⟨#[]⟩ : ByteArray))) (fun _ hk => ⟨hk.1.1.1.1, ⟨hk.1.1.1.2, ⟨hk.1.1.2, hk.1.2⟩⟩⟩)⟩, ⟨by (with_reducible repeat (first | refine blk_drewN ?_ _ | refine blk_drew ?_ | refine blk_alloc ?_ _)); refine blk_far ?_ NB579_583.out _; (with_reducible repeat (first | refine blk_drewN ?_ _ | refine blk_drew ?_ | refine blk_alloc ?_ _)); refine blk_far ?_ NB579_583.out _; (with_reducible repeat (first | refine blk_drewN ?_ _ | refine blk_drew ?_ | refine blk_alloc ?_ _)); refine blk_far ?_ NB579_583.out _; (with_reducible repeat (first | refine blk_drewN ?_ _ | refine blk_drew ?_ | refine blk_alloc ?_ _)); exact BK579.out⟩, ⟨by (with_reducible repeat (first | refine blk_drewN ?_ _ | refine blk_drew ?_ | refine blk_alloc ?_ _)); refine blk_far ?_ NB580_583.out _; (with_reducible repeat (first | refine blk_drewN ?_ _ | refine blk_drew ?_ | refine blk_alloc ?_ _)); refine blk_far ?_ NB580_583.out _; (with_reducible repeat (first | refine blk_drewN ?_ _ | refine blk_drew ?_ | refine blk_alloc ?_ _)); refine blk_far ?_ NB580_583.out _; (with_reducible repeat (first | refine blk_drewN ?_ _ | refine blk_drew ?_ | refine blk_alloc ?_ _)); exact BK580.out⟩, ⟨by (with_reducible repeat (first | refine blk_drewN ?_ _ | refine blk_drew ?_ | refine blk_alloc ?_ _)); refine blk_put (cs := #[.string a1, .string (⟨#[]⟩ : ByteArray), .string (⟨#[]⟩ : ByteArray)]) ?_ 2 _ rfl; (with_reducible repeat (first | refine blk_drewN ?_ _ | refine blk_drew ?_ | refine blk_alloc ?_ _)); refine blk_put (cs := #[.string a1, .string (⟨#[]⟩ : ByteArray), .string (⟨#[]⟩ : ByteArray)]) ?_ 1 _ rfl; (with_reducible repeat (first | refine blk_drewN ?_ _ | refine blk_drew ?_ | refine blk_alloc ?_ _)); refine blk_put (cs := #[.string (⟨#[]⟩ : ByteArray), .string (⟨#[]⟩ : ByteArray), .string (⟨#[]⟩ : ByteArray)]) ?_ 0 _ rfl; (with_reducible repeat (first | refine blk_drewN ?_ _ | refine blk_drew ?_ | refine blk_alloc ?_ _)); exact BK583.out⟩, ⟨by repeat (first | (with_reducible first | exact HB.out | apply below_alloc | apply pw_below_drewN | apply below_drew1 | refine below_set ?_ GE579.out | refine below_set ?_ GE580.out | refine below_set ?_ GE583.out) | exact HB.out)⟩⟩
  case rest =>
    clear HC5
    try clear c1
    try clear c2
    try clear p2
    try clear c4
    try clear p5
    try clear q5
    try clear hx5
    try clear c8
    try clear c12
    try clear c13
    try clear c15
    try clear c16
    try clear c16b0
    try clear c17
    try clear c17b0
    try clear c18
    try clear c19
    try clear c21
    try clear hcz14_0
    try clear hcz14_1
    try clear hcz14_2
    try clear hcz20_0
    try clear hcz20_1
    try clear hcz22_0
    try clear hcz22_1
    try clear hcz22_2
    try clear hcz9_0
    try clear hcz9_1
    try clear hfz14_0
    try clear hfz14_1
    try clear hfz14_2
    try clear hfz20_0
    try clear hfz20_1
    try clear hfz22_0
    try clear hfz22_1
    try clear hfz22_2
    try clear hfz9_0
    try clear hfz9_1
    try clear hx584_0
    try clear hx584_1
    try clear hx584_2
    try clear p584
    try clear q584
    obtain ⟨kq, x11_4, x584000_4, x584001_4, x584002_4, rfl, HA, HJ4, HO_580001, BK579, BK580, BK583, HB⟩ := hcut
    cases kq with
    | zero => exact absurd HA.out (by simp [disk_Write.j0])
    | succ kj4 =>
      have H := HA.out
      clear HA
      simp only [disk_Write.j0] at H
      replace H := Option.bind_eq_some_iff.mp H
      obtain ⟨t585, A230, H⟩ := H
      replace H : ((disk_name.f a1).bind fun t586 => (if t586 = true then (if t582 = true then (if (a2.size : Int) > (wrap64 (a0_0 - (wrap64 (t585 - (x584001_4.size : Int))))) then (some (a0_0, l0_1, 8)) else ((api_File_50.f l0_1 t581 x11_4 (([(⟨x584000_4, a2, x584002_4⟩ : S55)] : List (S55)))).bind fun t590 => (some (a0_0, t590, 0)))) else (if (l0_1.length : Int) ≥ 64 then (some (a0_0, l0_1, 8)) else (if (a2.size : Int) > (wrap64 (a0_0 - (wrap64 (t585 - (x584001_4.size : Int))))) then (some (a0_0, l0_1, 8)) else ((api_File_50.f l0_1 t581 x11_4 (([(⟨x584000_4, a2, x584002_4⟩ : S55)] : List (S55)))).bind fun t596 => (some (a0_0, t596, 0)))))) else (some (a0_0, l0_1, 1)))) = some (r1, r2, r3) := H
      have A23 := Aside0.mk A230
      clear A230
      replace H := Option.bind_eq_some_iff.mp H
      obtain ⟨t586, A240, H⟩ := H
      replace H : (if t586 = true then (if t582 = true then (if (a2.size : Int) > (wrap64 (a0_0 - (wrap64 (t585 - (x584001_4.size : Int))))) then (some (a0_0, l0_1, 8)) else ((api_File_50.f l0_1 t581 x11_4 (([(⟨x584000_4, a2, x584002_4⟩ : S55)] : List (S55)))).bind fun t590 => (some (a0_0, t590, 0)))) else (if (l0_1.length : Int) ≥ 64 then (some (a0_0, l0_1, 8)) else (if (a2.size : Int) > (wrap64 (a0_0 - (wrap64 (t585 - (x584001_4.size : Int))))) then (some (a0_0, l0_1, 8)) else ((api_File_50.f l0_1 t581 x11_4 (([(⟨x584000_4, a2, x584002_4⟩ : S55)] : List (S55)))).bind fun t596 => (some (a0_0, t596, 0)))))) else (some (a0_0, l0_1, 1))) = some (r1, r2, r3) := H
      have A24 := Aside0.mk A240
      clear A240
      by_cases c25 : t586 = true
      · subst c25
        have H1 : (if t582 = true then (if (a2.size : Int) > (wrap64 (a0_0 - (wrap64 (t585 - (x584001_4.size : Int))))) then (some (a0_0, l0_1, 8)) else ((api_File_50.f l0_1 t581 x11_4 (([(⟨x584000_4, a2, x584002_4⟩ : S55)] : List (S55)))).bind fun t590 => (some (a0_0, t590, 0)))) else (if (l0_1.length : Int) ≥ 64 then (some (a0_0, l0_1, 8)) else (if (a2.size : Int) > (wrap64 (a0_0 - (wrap64 (t585 - (x584001_4.size : Int))))) then (some (a0_0, l0_1, 8)) else ((api_File_50.f l0_1 t581 x11_4 (([(⟨x584000_4, a2, x584002_4⟩ : S55)] : List (S55)))).bind fun t596 => (some (a0_0, t596, 0)))))) = some (r1, r2, r3) := by rw [if_pos rfl] at H; exact H
        clear H
        have H := H1
        clear H1
        by_cases c26 : t582 = true
        · subst c26
          have H1 : (if (a2.size : Int) > (wrap64 (a0_0 - (wrap64 (t585 - (x584001_4.size : Int))))) then (some (a0_0, l0_1, 8)) else ((api_File_50.f l0_1 t581 x11_4 (([(⟨x584000_4, a2, x584002_4⟩ : S55)] : List (S55)))).bind fun t590 => (some (a0_0, t590, 0)))) = some (r1, r2, r3) := by rw [if_pos rfl] at H; exact H
          clear H
          have H := H1
          clear H1
          by_cases c27 : (a2.size : Int) > (wrap64 (a0_0 - (wrap64 (t585 - (x584001_4.size : Int)))))
          · rw [if_pos c27] at H
            have c27b0 : decide ((wrap64 (a0_0 - (wrap64 (t585 - (x584001_4.size : Int))))) < (a2.size : Int)) = true := decide_eq_true c27
            clear c27
            simp only [Option.some.injEq, Prod.mk.injEq] at H
            obtain ⟨rfl, rfl, rfl⟩ := H
            try go_wp2
            have n0_ := Aside0.mk (Kd.V_drew HO_580001.out)
            have n1_ := Aside0.mk (blk_drew BK579.out)
            have n2_ := Aside0.mk (blk_drew BK580.out)
            have n3_ := Aside0.mk (blk_drew BK583.out)
            have n4_ := Aside0.mk (below_drew1 HB.out)
            clear HO_580001
            clear BK579
            clear BK580
            clear BK583
            clear HB
            have HO_580001 := n0_
            have BK579 := n1_
            have BK580 := n2_
            have BK583 := n3_
            have HB := n4_
            clear n0_ n1_ n2_ n3_ n4_
            refine start_ (n := 7) (S := fun w' => w'.cell? ⟨gb579, 0, none⟩ = some (.int .i64 a0_0) ∧ w'.cell? ⟨gb579, 1, none⟩ = some (.slice A0_1 l0_1.length c0_1) ∧ w'.cell? ⟨gb583, 0, none⟩ = some (.string x584000_4) ∧ w'.cell? ⟨gb583, 1, none⟩ = some (.string x584001_4) ∧ w'.cell? ⟨gb583, 2, none⟩ = some (.string x584002_4)) (ds := []) #[false, false, false, false, false, false, false] (by kernel_rfl) rfl rfl ⟨(blk_cell BK579.out 0).trans rfl, (blk_cell BK579.out 1).trans rfl, (blk_cell BK583.out 0).trans rfl, (blk_cell BK583.out 1).trans rfl, (blk_cell BK583.out 2).trans rfl⟩ (fun hHeld => ?_)
            generalize wc.drew = w28 at HO_580001 BK579 BK580 BK583 HB hHeld ⊢
            refine pure_ (i := 2) (N := some 29) (v := ?_) (a' := ?_) #[false, false, true, false, false, false, false] rfl rfl (by kernel_rfl) (fun _ _ _ h => h) (Or.inl ⟨by rfl, ?_⟩) ?_ ?_
            rotate_left
            · intro w'
              go_simp
              with_reducible rfl
            rotate_left
            · simp only [Act.put, List.setIfInBounds_toArray, List.set_cons_zero, List.set_cons_succ, i64_w, i32_w]
              rfl
            refine take_ (i := 0) (N := some 27) (v := ?_) (a' := ?_) #[true, false, true, false, false, false, false] rfl rfl (by kernel_rfl) (fun _ _ _ h => h) (Or.inl ⟨by rfl, ?_⟩) hHeld ?_ ?_
            rotate_left
            · rintro w' ⟨s0, s1, s2, s3, s4⟩
              go_simp
              with_reducible rfl
            rotate_left
            · simp only [Act.put, List.setIfInBounds_toArray, List.set_cons_zero, List.set_cons_succ, i64_w, i32_w]
              rfl
            refine take_ (i := 3) (N := some 30) (v := ?_) (a' := ?_) #[true, false, true, true, false, false, false] rfl rfl (by kernel_rfl) (fun _ _ _ h => h) (Or.inl ⟨by rfl, ?_⟩) hHeld ?_ ?_
            rotate_left
            · rintro w' ⟨s0, s1, s2, s3, s4⟩
              go_simp
              with_reducible rfl
            rotate_left
            · simp only [Act.put, List.setIfInBounds_toArray, List.set_cons_zero, List.set_cons_succ, i64_w, i32_w]
              rfl
            refine pure_ (i := 4) (N := some 31) (v := ?_) (a' := ?_) #[true, false, true, true, true, false, false] rfl rfl (by kernel_rfl) (fun _ _ _ h => h) (Or.inl ⟨by rfl, ?_⟩) ?_ ?_
            rotate_left
            · intro w'
              go_simp
              with_reducible rfl
            rotate_left
            · simp only [Act.put, List.setIfInBounds_toArray, List.set_cons_zero, List.set_cons_succ, i64_w, i32_w]
              rfl
            refine one_ (i := 1) (N := some 28) #[true, true, true, true, true, false, false] rfl rfl (by kernel_rfl) (by decide) (fun K hK => ?_)
            refine goes_ Try.func30 (by kernel_rfl) rfl #[.agg #[.int .i64 a0_0, .slice A0_1 l0_1.length c0_1]] (by rfl) rfl rfl (by (try simp only [List.map_toArray, List.map_cons, List.map_nil]); first | done | rfl | (simp only [List.length_drop, List.length_take]; rfl)) ?_
            with_reducible refine (disk_Used.calls kj4 a0_0 _ _ l0_1 t585 _ ?side1 ?side2 A23.out).mono ?_
            (case side1 => repeat (first | exact (Kd.V_reads' HO_580001.out).2.2 | (with_reducible refine Kd.C_alloc ?_ _) | (with_reducible refine Kd.C_drewN ?_ _) | (with_reducible refine Kd.C_drew ?_)))
            (case side2 => exact (Kd.V_reads' HO_580001.out).2.1)
            rintro e w29 ⟨rfl, hb⟩
            refine ⟨_, rfl, ?_⟩
            have n0_ := Aside0.mk (Kd.V_below (by (with_reducible repeat (first | apply Kd.V_alloc | apply Kd.V_drewN | apply Kd.V_drew)); exact HO_580001.out) hb)
            have n1_ := Aside0.mk (blk_below (g := gb579) (o := .cells #[.int .i64 a0_0, .slice A0_1 l0_1.length c0_1] 46 (0, 0)) (by (with_reducible repeat (first | refine blk_drewN ?_ _ | refine blk_drew ?_ | refine blk_alloc ?_ _)); exact BK579.out) hb)
            have n2_ := Aside0.mk (blk_below (g := gb580) (o := .cells #[.int .i64 0, .slice none 0 0] 46 (0, 0)) (by (with_reducible repeat (first | refine blk_drewN ?_ _ | refine blk_drew ?_ | refine blk_alloc ?_ _)); exact BK580.out) hb)
            have n3_ := Aside0.mk (blk_below (g := gb583) (o := .cells #[.string x584000_4, .string x584001_4, .string x584002_4] 55 (0, 0)) (by (with_reducible repeat (first | refine blk_drewN ?_ _ | refine blk_drew ?_ | refine blk_alloc ?_ _)); exact BK583.out) hb)
            have n4_ := Aside0.mk (below_step (by repeat (first | (with_reducible first | exact HB.out | apply below_alloc | apply pw_below_drewN | apply below_drew1 | refine below_set ?_ GE579.out | refine below_set ?_ GE580.out | refine below_set ?_ GE583.out) | exact HB.out)) hb)
            clear HO_580001
            clear BK579
            clear BK580
            clear BK583
            clear HB
            have HO_580001 := n0_
            have BK579 := n1_
            have BK580 := n2_
            have BK583 := n3_
            have HB := n4_
            clear n0_ n1_ n2_ n3_ n4_
            (try clear hb)
            (try clear hb2)
            (try clear hk)
            (try clear hi)
            refine hK.out _ _ ⟨(blk_cell BK579.out 0).trans rfl, (blk_cell BK579.out 1).trans rfl, (blk_cell BK583.out 0).trans rfl, (blk_cell BK583.out 1).trans rfl, (blk_cell BK583.out 2).trans rfl⟩ (fun hHeld => ?_)
            clear hK K
            refine norm_ (a' := ?_) ?_ ?_
            rotate_left
            · show Act.put _ (some 28) _ = _
              simp only [Act.put, List.setIfInBounds_toArray, List.set_cons_zero, List.set_cons_succ, i64_w, i32_w]
              rfl
            refine pure_ (i := 5) (N := some 32) (v := ?_) (a' := ?_) #[true, true, true, true, true, true, false] rfl rfl (by kernel_rfl) (fun _ _ _ h => h) (Or.inl ⟨by rfl, ?_⟩) ?_ ?_
            rotate_left
            · intro w'
              go_simp
              with_reducible rfl
            rotate_left
            · simp only [Act.put, List.setIfInBounds_toArray, List.set_cons_zero, List.set_cons_succ, i64_w, i32_w]
              rfl
            refine pure_ (i := 6) (N := some 12) (v := ?_) (a' := ?_) #[true, true, true, true, true, true, true] rfl rfl (by kernel_rfl) (fun _ _ _ h => h) (Or.inl ⟨by rfl, ?_⟩) ?_ ?_
            rotate_left
            · intro w'
              go_simp
              with_reducible rfl
            rotate_left
            · simp only [Act.put, List.setIfInBounds_toArray, List.set_cons_zero, List.set_cons_succ, i64_w, i32_w]
              rfl
            refine done_ (by kernel_rfl) ?_
            try go_wp2_with (first | ((with_reducible refine gate_callee (f := 49) rfl ?_); refine goesL_ (some 35) rfl rfl Try.func49 (by kernel_rfl) rfl #[.string a1] rfl (by (try simp only [List.map_toArray, List.map_cons, List.map_nil]); first | done | rfl | (simp only [List.length_drop, List.length_take]; rfl)) ?_; (with_reducible refine (disk_name.calls a1 true _ A24.out).mono ?_); rintro e w' ⟨rfl, ⟨nd, rfl⟩⟩; refine ⟨_, rfl, ?_⟩; (try (rw [drewN_self w29]; generalize hq_ : World.drewN w29 _ = w29; have n0_ : Aside0 (Kd.V k55 55 w29 w.heap.size (fun k_ => (P0_1_ k_ ∨ w.heap.size ≤ k_) ∧ k_ ≠ gb579 ∧ k_ ≠ gb580 ∧ k_ ≠ gb583) (.slice A0_1 l0_1.length c0_1) l0_1) := ⟨by rw [← hq_]; exact (by (with_reducible repeat (first | apply Kd.V_alloc | apply Kd.V_drewN | apply Kd.V_drew)); exact HO_580001.out)⟩; have n1_ : Aside0 (w29.heap[gb579]? = some (.cells #[.int .i64 a0_0, .slice A0_1 l0_1.length c0_1] 46 (0, 0))) := ⟨by rw [← hq_]; exact (by (with_reducible repeat (first | refine blk_drewN ?_ _ | refine blk_drew ?_ | refine blk_alloc ?_ _)); exact BK579.out)⟩; have n2_ : Aside0 (w29.heap[gb580]? = some (.cells #[.int .i64 0, .slice none 0 0] 46 (0, 0))) := ⟨by rw [← hq_]; exact (by (with_reducible repeat (first | refine blk_drewN ?_ _ | refine blk_drew ?_ | refine blk_alloc ?_ _)); exact BK580.out)⟩; have n3_ : Aside0 (w29.heap[gb583]? = some (.cells #[.string x584000_4, .string x584001_4, .string x584002_4] 55 (0, 0))) := ⟨by rw [← hq_]; exact (by (with_reducible repeat (first | refine blk_drewN ?_ _ | refine blk_drew ?_ | refine blk_alloc ?_ _)); exact BK583.out)⟩; have n4_ : Aside0 (Below w.heap.size w w29) := ⟨by rw [← hq_]; exact (by repeat (first | (with_reducible first | exact HB.out | apply below_alloc | apply pw_below_drewN | apply below_drew1 | refine below_set ?_ GE579.out | refine below_set ?_ GE580.out | refine below_set ?_ GE583.out) | exact HB.out))⟩; clear HO_580001 BK579 BK580 BK583 HB hq_; have HO_580001 := n0_; have BK579 := n1_; have BK580 := n2_; have BK583 := n3_; have HB := n4_; clear n0_ n1_ n2_ n3_ n4_)); have hnb30 := NB579_580.out; have hnc30 := NB580_579.out; have hnb31 := NB579_583.out; have hnc31 := NB583_579.out; have hcz32_0 : w29.cell? ⟨gb579, 0, none⟩ = some (.int .i64 a0_0) := (blk_cell BK579.out 0).trans rfl; have hcz32_1 : w29.cell? ⟨gb579, 1, none⟩ = some (.slice A0_1 l0_1.length c0_1) := (blk_cell BK579.out 1).trans rfl; have hfz32_0 := blk_frozen BK579.out 0; have hfz32_1 := blk_frozen BK579.out 1; have hnb33 := NB580_583.out; have hnc33 := NB583_580.out; have hcz34_0 : w29.cell? ⟨gb580, 0, none⟩ = some (.int .i64 0) := (blk_cell BK580.out 0).trans rfl; have hcz34_1 : w29.cell? ⟨gb580, 1, none⟩ = some (.slice none 0 0) := (blk_cell BK580.out 1).trans rfl; have hfz34_0 := blk_frozen BK580.out 0; have hfz34_1 := blk_frozen BK580.out 1))
            refine bodyPost_ret (results_ct rfl _ _ gb580 46 #[.int .i64 a0_0, .slice A0_1 l0_1.length c0_1] (0, 0) _ rfl (by (with_reducible repeat (first | refine blk_drewN ?_ _ | refine blk_drew ?_ | refine blk_alloc ?_ _)); refine blk_put (cs := #[.int .i64 a0_0, .slice none 0 0]) ?_ 1 _ rfl; (with_reducible repeat (first | refine blk_drewN ?_ _ | refine blk_drew ?_ | refine blk_alloc ?_ _)); refine blk_put (cs := #[.int .i64 0, .slice none 0 0]) ?_ 0 _ rfl; (with_reducible repeat (first | refine blk_drewN ?_ _ | refine blk_drew ?_ | refine blk_alloc ?_ _)); exact BK580.out) Try.underlying46 rfl (by kernel_rfl)) rfl ?_
            exact ⟨_, by first | rfl | (simp [errW_none, errW_some] <;> rfl) | (simp [*, errW_none, errW_some] <;> rfl), by (with_reducible repeat (first | apply Kd.V_alloc | apply Kd.V_drewN | apply Kd.V_drew)); exact Kd.V_mono (Kd.V_far (p := ⟨gb580, 1, none⟩) (Kd.V_far (p := ⟨gb580, 0, none⟩) (Kd.V_mono HO_580001.out (fun k_ hk => (⟨hk, hk.2.2.1⟩ : _ ∧ k_ ≠ gb580))) (fun _ hk => hk.2) (.int .i64 a0_0)) (fun _ hk => hk.2) (.slice A0_1 l0_1.length c0_1)) (fun _ hk => hk.1.1), by repeat (first | (with_reducible first | exact HB.out | apply below_alloc | apply pw_below_drewN | apply below_drew1 | refine below_set ?_ GE579.out | refine below_set ?_ GE580.out | refine below_set ?_ GE583.out) | exact HB.out)⟩
          · rw [if_neg c27] at H
            have c27b0 : decide ((wrap64 (a0_0 - (wrap64 (t585 - (x584001_4.size : Int))))) < (a2.size : Int)) = false := decide_eq_false c27
            clear c27
            obtain ⟨y587, hy587⟩ : ∃ y_ : List (S55), y_ = (([(⟨x584000_4, a2, x584002_4⟩ : S55)] : List (S55))) := ⟨_, rfl⟩
            replace H : ((api_File_50.f l0_1 t581 x11_4 y587).bind fun t590 => (some (a0_0, t590, 0))) = some (r1, r2, r3) := by first | (rw [hy587]; with_reducible exact H) | (have H2_ := (Option.bind_some _ _).symm.trans H; rw [hy587]; with_reducible exact H2_) | (have H2_ := (Option.bind_some _ _).symm.trans H; with_reducible exact H2_) | with_reducible exact H | (rw [hy587]; exact H) | exact H
            have Ny587 := Aside0.mk hy587
            clear hy587
            replace H := Option.bind_eq_some_iff.mp H
            obtain ⟨t590, A350, H⟩ := H
            replace H : (some (a0_0, t590, 0)) = some (r1, r2, r3) := H
            have A35 := Aside0.mk A350
            clear A350
            simp only [Option.some.injEq, Prod.mk.injEq] at H
            obtain ⟨rfl, rfl, rfl⟩ := H
            try go_wp2
            have n0_ := Aside0.mk (Kd.V_drew HO_580001.out)
            have n1_ := Aside0.mk (blk_drew BK579.out)
            have n2_ := Aside0.mk (blk_drew BK580.out)
            have n3_ := Aside0.mk (blk_drew BK583.out)
            have n4_ := Aside0.mk (below_drew1 HB.out)
            clear HO_580001
            clear BK579
            clear BK580
            clear BK583
            clear HB
            have HO_580001 := n0_
            have BK579 := n1_
            have BK580 := n2_
            have BK583 := n3_
            have HB := n4_
            clear n0_ n1_ n2_ n3_ n4_
            refine start_ (n := 7) (S := fun w' => w'.cell? ⟨gb579, 0, none⟩ = some (.int .i64 a0_0) ∧ w'.cell? ⟨gb579, 1, none⟩ = some (.slice A0_1 l0_1.length c0_1) ∧ w'.cell? ⟨gb583, 0, none⟩ = some (.string x584000_4) ∧ w'.cell? ⟨gb583, 1, none⟩ = some (.string x584001_4) ∧ w'.cell? ⟨gb583, 2, none⟩ = some (.string x584002_4)) (ds := []) #[false, false, false, false, false, false, false] (by kernel_rfl) rfl rfl ⟨(blk_cell BK579.out 0).trans rfl, (blk_cell BK579.out 1).trans rfl, (blk_cell BK583.out 0).trans rfl, (blk_cell BK583.out 1).trans rfl, (blk_cell BK583.out 2).trans rfl⟩ (fun hHeld => ?_)
            generalize wc.drew = w36 at HO_580001 BK579 BK580 BK583 HB hHeld ⊢
            refine pure_ (i := 2) (N := some 29) (v := ?_) (a' := ?_) #[false, false, true, false, false, false, false] rfl rfl (by kernel_rfl) (fun _ _ _ h => h) (Or.inl ⟨by rfl, ?_⟩) ?_ ?_
            rotate_left
            · intro w'
              go_simp
              with_reducible rfl
            rotate_left
            · simp only [Act.put, List.setIfInBounds_toArray, List.set_cons_zero, List.set_cons_succ, i64_w, i32_w]
              rfl
            refine take_ (i := 0) (N := some 27) (v := ?_) (a' := ?_) #[true, false, true, false, false, false, false] rfl rfl (by kernel_rfl) (fun _ _ _ h => h) (Or.inl ⟨by rfl, ?_⟩) hHeld ?_ ?_
            rotate_left
            · rintro w' ⟨s0, s1, s2, s3, s4⟩
              go_simp
              with_reducible rfl
            rotate_left
            · simp only [Act.put, List.setIfInBounds_toArray, List.set_cons_zero, List.set_cons_succ, i64_w, i32_w]
              rfl
            refine take_ (i := 3) (N := some 30) (v := ?_) (a' := ?_) #[true, false, true, true, false, false, false] rfl rfl (by kernel_rfl) (fun _ _ _ h => h) (Or.inl ⟨by rfl, ?_⟩) hHeld ?_ ?_
            rotate_left
            · rintro w' ⟨s0, s1, s2, s3, s4⟩
              go_simp
              with_reducible rfl
            rotate_left
            · simp only [Act.put, List.setIfInBounds_toArray, List.set_cons_zero, List.set_cons_succ, i64_w, i32_w]
              rfl
            refine pure_ (i := 4) (N := some 31) (v := ?_) (a' := ?_) #[true, false, true, true, true, false, false] rfl rfl (by kernel_rfl) (fun _ _ _ h => h) (Or.inl ⟨by rfl, ?_⟩) ?_ ?_
            rotate_left
            · intro w'
              go_simp
              with_reducible rfl
            rotate_left
            · simp only [Act.put, List.setIfInBounds_toArray, List.set_cons_zero, List.set_cons_succ, i64_w, i32_w]
              rfl
            refine one_ (i := 1) (N := some 28) #[true, true, true, true, true, false, false] rfl rfl (by kernel_rfl) (by decide) (fun K hK => ?_)
            refine goes_ Try.func30 (by kernel_rfl) rfl #[.agg #[.int .i64 a0_0, .slice A0_1 l0_1.length c0_1]] (by rfl) rfl rfl (by (try simp only [List.map_toArray, List.map_cons, List.map_nil]); first | done | rfl | (simp only [List.length_drop, List.length_take]; rfl)) ?_
            with_reducible refine (disk_Used.calls kj4 a0_0 _ _ l0_1 t585 _ ?side1 ?side2 A23.out).mono ?_
            (case side1 => repeat (first | exact (Kd.V_reads' HO_580001.out).2.2 | (with_reducible refine Kd.C_alloc ?_ _) | (with_reducible refine Kd.C_drewN ?_ _) | (with_reducible refine Kd.C_drew ?_)))
            (case side2 => exact (Kd.V_reads' HO_580001.out).2.1)
            rintro e w37 ⟨rfl, hb⟩
            refine ⟨_, rfl, ?_⟩
            have n0_ := Aside0.mk (Kd.V_below (by (with_reducible repeat (first | apply Kd.V_alloc | apply Kd.V_drewN | apply Kd.V_drew)); exact HO_580001.out) hb)
            have n1_ := Aside0.mk (blk_below (g := gb579) (o := .cells #[.int .i64 a0_0, .slice A0_1 l0_1.length c0_1] 46 (0, 0)) (by (with_reducible repeat (first | refine blk_drewN ?_ _ | refine blk_drew ?_ | refine blk_alloc ?_ _)); exact BK579.out) hb)
            have n2_ := Aside0.mk (blk_below (g := gb580) (o := .cells #[.int .i64 0, .slice none 0 0] 46 (0, 0)) (by (with_reducible repeat (first | refine blk_drewN ?_ _ | refine blk_drew ?_ | refine blk_alloc ?_ _)); exact BK580.out) hb)
            have n3_ := Aside0.mk (blk_below (g := gb583) (o := .cells #[.string x584000_4, .string x584001_4, .string x584002_4] 55 (0, 0)) (by (with_reducible repeat (first | refine blk_drewN ?_ _ | refine blk_drew ?_ | refine blk_alloc ?_ _)); exact BK583.out) hb)
            have n4_ := Aside0.mk (below_step (by repeat (first | (with_reducible first | exact HB.out | apply below_alloc | apply pw_below_drewN | apply below_drew1 | refine below_set ?_ GE579.out | refine below_set ?_ GE580.out | refine below_set ?_ GE583.out) | exact HB.out)) hb)
            clear HO_580001
            clear BK579
            clear BK580
            clear BK583
            clear HB
            have HO_580001 := n0_
            have BK579 := n1_
            have BK580 := n2_
            have BK583 := n3_
            have HB := n4_
            clear n0_ n1_ n2_ n3_ n4_
            (try clear hb)
            (try clear hb2)
            (try clear hk)
            (try clear hi)
            refine hK.out _ _ ⟨(blk_cell BK579.out 0).trans rfl, (blk_cell BK579.out 1).trans rfl, (blk_cell BK583.out 0).trans rfl, (blk_cell BK583.out 1).trans rfl, (blk_cell BK583.out 2).trans rfl⟩ (fun hHeld => ?_)
            clear hK K
            refine norm_ (a' := ?_) ?_ ?_
            rotate_left
            · show Act.put _ (some 28) _ = _
              simp only [Act.put, List.setIfInBounds_toArray, List.set_cons_zero, List.set_cons_succ, i64_w, i32_w]
              rfl
            refine pure_ (i := 5) (N := some 32) (v := ?_) (a' := ?_) #[true, true, true, true, true, true, false] rfl rfl (by kernel_rfl) (fun _ _ _ h => h) (Or.inl ⟨by rfl, ?_⟩) ?_ ?_
            rotate_left
            · intro w'
              go_simp
              with_reducible rfl
            rotate_left
            · simp only [Act.put, List.setIfInBounds_toArray, List.set_cons_zero, List.set_cons_succ, i64_w, i32_w]
              rfl
            refine pure_ (i := 6) (N := some 12) (v := ?_) (a' := ?_) #[true, true, true, true, true, true, true] rfl rfl (by kernel_rfl) (fun _ _ _ h => h) (Or.inl ⟨by rfl, ?_⟩) ?_ ?_
            rotate_left
            · intro w'
              go_simp
              with_reducible rfl
            rotate_left
            · simp only [Act.put, List.setIfInBounds_toArray, List.set_cons_zero, List.set_cons_succ, i64_w, i32_w]
              rfl
            refine done_ (by kernel_rfl) ?_
            try go_wp2_with (first | ((with_reducible refine gate_callee (f := 49) rfl ?_); refine goesL_ (some 35) rfl rfl Try.func49 (by kernel_rfl) rfl #[.string a1] rfl (by (try simp only [List.map_toArray, List.map_cons, List.map_nil]); first | done | rfl | (simp only [List.length_drop, List.length_take]; rfl)) ?_; (with_reducible refine (disk_name.calls a1 true _ A24.out).mono ?_); rintro e w' ⟨rfl, ⟨nd, rfl⟩⟩; refine ⟨_, rfl, ?_⟩; (try (rw [drewN_self w37]; generalize hq_ : World.drewN w37 _ = w37; have n0_ : Aside0 (Kd.V k55 55 w37 w.heap.size (fun k_ => (P0_1_ k_ ∨ w.heap.size ≤ k_) ∧ k_ ≠ gb579 ∧ k_ ≠ gb580 ∧ k_ ≠ gb583) (.slice A0_1 l0_1.length c0_1) l0_1) := ⟨by rw [← hq_]; exact (by (with_reducible repeat (first | apply Kd.V_alloc | apply Kd.V_drewN | apply Kd.V_drew)); exact HO_580001.out)⟩; have n1_ : Aside0 (w37.heap[gb579]? = some (.cells #[.int .i64 a0_0, .slice A0_1 l0_1.length c0_1] 46 (0, 0))) := ⟨by rw [← hq_]; exact (by (with_reducible repeat (first | refine blk_drewN ?_ _ | refine blk_drew ?_ | refine blk_alloc ?_ _)); exact BK579.out)⟩; have n2_ : Aside0 (w37.heap[gb580]? = some (.cells #[.int .i64 0, .slice none 0 0] 46 (0, 0))) := ⟨by rw [← hq_]; exact (by (with_reducible repeat (first | refine blk_drewN ?_ _ | refine blk_drew ?_ | refine blk_alloc ?_ _)); exact BK580.out)⟩; have n3_ : Aside0 (w37.heap[gb583]? = some (.cells #[.string x584000_4, .string x584001_4, .string x584002_4] 55 (0, 0))) := ⟨by rw [← hq_]; exact (by (with_reducible repeat (first | refine blk_drewN ?_ _ | refine blk_drew ?_ | refine blk_alloc ?_ _)); exact BK583.out)⟩; have n4_ : Aside0 (Below w.heap.size w w37) := ⟨by rw [← hq_]; exact (by repeat (first | (with_reducible first | exact HB.out | apply below_alloc | apply pw_below_drewN | apply below_drew1 | refine below_set ?_ GE579.out | refine below_set ?_ GE580.out | refine below_set ?_ GE583.out) | exact HB.out))⟩; clear HO_580001 BK579 BK580 BK583 HB hq_; have HO_580001 := n0_; have BK579 := n1_; have BK580 := n2_; have BK583 := n3_; have HB := n4_; clear n0_ n1_ n2_ n3_ n4_)); have hnb38 := NB579_580.out; have hnc38 := NB580_579.out; have hnb39 := NB579_583.out; have hnc39 := NB583_579.out; have hcz40_0 : w37.cell? ⟨gb579, 0, none⟩ = some (.int .i64 a0_0) := (blk_cell BK579.out 0).trans rfl; have hcz40_1 : w37.cell? ⟨gb579, 1, none⟩ = some (.slice A0_1 l0_1.length c0_1) := (blk_cell BK579.out 1).trans rfl; have hfz40_0 := blk_frozen BK579.out 0; have hfz40_1 := blk_frozen BK579.out 1; have hnb41 := NB583_580.out; have hnc41 := NB580_583.out; have hcz42_0 : w37.cell? ⟨gb583, 0, none⟩ = some (.string x584000_4) := (blk_cell BK583.out 0).trans rfl; have hcz42_1 : w37.cell? ⟨gb583, 1, none⟩ = some (.string x584001_4) := (blk_cell BK583.out 1).trans rfl; have hcz42_2 : w37.cell? ⟨gb583, 2, none⟩ = some (.string x584002_4) := (blk_cell BK583.out 2).trans rfl; have hfz42_0 := blk_frozen BK583.out 0; have hfz42_1 := blk_frozen BK583.out 1; have hfz42_2 := blk_frozen BK583.out 2) | ((with_reducible refine gate_dst (N := 64) rfl ?_); (try (refine gate_guard (by rfl) ?_; dsimp only)); refine Kd.R_lit k55 _ 55 ?hg (N := 64) ?hd (xs := ([(⟨x584000_4, a2, x584002_4⟩ : S55)] : List (S55))) (inner := [.string x584000_4, .string a2, .string x584002_4]) (ok := fun _ => True) (okp := fun _ => True) ?hr ?hp (fun _ hk => hk) trivial (Below.refl _ _) (Nat.le_refl _) (by simp) ?_; (case hd => rfl); (case hg => rfl); (case hr => first | (go_simp; done) | (go_simp; rfl)); (case hp => exact (Reps.c3 (show Kd.M k55 _ _ _ (⟨x584000_4, a2, x584002_4⟩ : S55) [.string x584000_4, .string a2, .string x584002_4] from (k55_mkM _ _ _ (⟨x584000_4, a2, x584002_4⟩ : S55) )) (Reps.none _ _))); intro v588 w43 ho44 hb hg_ hnew_; clear hg_ hnew_; (first | rw [← Ny587.out] at ho44 | (simp only [Int.reduceToNat] at ho44; rw [← Ny587.out] at ho44)); have n0_ := Aside0.mk (Kd.V_elder' (by (with_reducible repeat (first | apply Kd.V_alloc | apply Kd.V_drewN | apply Kd.V_drew)); exact (Kd.V_mono (Kd.V_far (p := ⟨gb583, 1, none⟩) (Kd.V_mono HO_580001.out (fun k_ hk => (⟨hk, hk.2.2.2⟩ : _ ∧ k_ ≠ gb583))) (fun _ hk => hk.2) (.string a2)) (fun _ h_ => h_.1))) (Kd.R_base ho44) hb); have n1_ := Aside0.mk (Kd.R_lower (Kd.R_newB (Kd.R_newM (M := fun k_ => (w.heap.size ≤ k_)) ho44 (below_size (by repeat (first | (with_reducible first | exact HB.out | apply below_alloc | apply pw_below_drewN | apply below_drew1 | refine below_set ?_ GE579.out | refine below_set ?_ GE580.out | refine below_set ?_ GE583.out) | exact HB.out))) (fun k_ h_ => h_)) (g := gb583) (o := .cells #[.string x584000_4, .string a2, .string x584002_4] 55 (0, 0)) (by (with_reducible repeat (first | refine blk_drewN ?_ _ | refine blk_drew ?_ | refine blk_alloc ?_ _)); refine blk_put (cs := #[.string x584000_4, .string x584001_4, .string x584002_4]) ?_ 1 _ rfl; (with_reducible repeat (first | refine blk_drewN ?_ _ | refine blk_drew ?_ | refine blk_alloc ?_ _)); exact BK583.out)) (below_size (by repeat (first | (with_reducible first | exact HB.out | apply below_alloc | apply pw_below_drewN | apply below_drew1 | refine below_set ?_ GE579.out | refine below_set ?_ GE580.out | refine below_set ?_ GE583.out) | exact HB.out)))); have n2_ := Aside0.mk (blk_below (g := gb579) (o := .cells #[.int .i64 a0_0, .slice A0_1 l0_1.length c0_1] 46 (0, 0)) (by (with_reducible repeat (first | refine blk_drewN ?_ _ | refine blk_drew ?_ | refine blk_alloc ?_ _)); refine blk_far ?_ NB579_583.out _; (with_reducible repeat (first | refine blk_drewN ?_ _ | refine blk_drew ?_ | refine blk_alloc ?_ _)); exact BK579.out) hb); have n3_ := Aside0.mk (blk_below (g := gb580) (o := .cells #[.int .i64 0, .slice none 0 0] 46 (0, 0)) (by (with_reducible repeat (first | refine blk_drewN ?_ _ | refine blk_drew ?_ | refine blk_alloc ?_ _)); refine blk_far ?_ NB580_583.out _; (with_reducible repeat (first | refine blk_drewN ?_ _ | refine blk_drew ?_ | refine blk_alloc ?_ _)); exact BK580.out) hb); have n4_ := Aside0.mk (blk_below (g := gb583) (o := .cells #[.string x584000_4, .string a2, .string x584002_4] 55 (0, 0)) (by (with_reducible repeat (first | refine blk_drewN ?_ _ | refine blk_drew ?_ | refine blk_alloc ?_ _)); refine blk_put (cs := #[.string x584000_4, .string x584001_4, .string x584002_4]) ?_ 1 _ rfl; (with_reducible repeat (first | refine blk_drewN ?_ _ | refine blk_drew ?_ | refine blk_alloc ?_ _)); exact BK583.out) hb); have n5_ := Aside0.mk (below_step (by repeat (first | (with_reducible first | exact HB.out | apply below_alloc | apply pw_below_drewN | apply below_drew1 | refine below_set ?_ GE579.out | refine below_set ?_ GE580.out | refine below_set ?_ GE583.out) | exact HB.out)) hb); clear HO_580001; clear BK579; clear BK580; clear BK583; clear HB; have HO_580001 := n0_; have HO589 := n1_; have BK579 := n2_; have BK580 := n3_; have BK583 := n4_; have HB := n5_; clear n0_ n1_ n2_ n3_ n4_ n5_; clear hb ho44; obtain ⟨Ao45, co45, eo45⟩ := Kd.R_slice HO589.out; subst eo45) | ((with_reducible refine gate_callee (f := 50) rfl ?_); refine goesL_ (some 65) rfl rfl Try.func50 (by kernel_rfl) rfl #[.slice A0_1 l0_1.length c0_1, .int .i64 t581, .int .i64 x11_4, .slice Ao45 y587.length co45] rfl (by (try simp only [List.map_toArray, List.map_cons, List.map_nil]); first | done | rfl | (simp only [List.length_drop, List.length_take]; rfl)) ?_; (with_reducible refine (api_File_50.calls (fun k_ => (((P0_1_ k_ ∨ w.heap.size ≤ k_) ∧ (k_ ≠ gb579 ∧ (k_ ≠ gb580 ∧ k_ ≠ gb583))) ∧ some k_ ≠ (.slice Ao45 y587.length co45 : Value).ownBlock)) _ _ l0_1 t581 x11_4 (fun k_ => some k_ = (.slice Ao45 y587.length co45 : Value).ownBlock) _ _ y587 t590 _ ?side1 ?side2 A35.out).mono ?_); (case side1 => exact HO_580001.out); (case side2 => exact Kd.R_V (Kd.R_tight rfl (Kd.R_types (Kd.R_types (HO589.out) BK579.out (by decide)) BK580.out (by decide)))); rintro e w46 ⟨v591, rfl, ho0, hb⟩; refine ⟨_, rfl, ?_⟩; have n0_ := Aside0.mk (Kd.V_below (by (with_reducible repeat (first | apply Kd.V_alloc | apply Kd.V_drewN | apply Kd.V_drew)); exact HO_580001.out) hb); have n1_ := Aside0.mk (Kd.R_below (by (with_reducible repeat (first | apply Kd.R_alloc | apply Kd.R_drewN | apply Kd.R_drew)); exact HO589.out) hb); have n2_ := Aside0.mk (Kd.V_lower (Kd.V_mono (ok' := fun k_ => (P0_1_ k_ ∨ w.heap.size ≤ k_) ∧ k_ ≠ gb579 ∧ k_ ≠ gb580 ∧ k_ ≠ gb583) ho0 (fun k_ hk_ => ⟨Or.elim hk_ (fun hs_ => Or.elim hs_ (fun hs_ => hs_.1.1) (fun hs_ => (.inr (((Kd.R_types (Kd.R_types (HO589.out) BK579.out (by decide)) BK580.out (by decide)).1 k_ hs_.symm).1.1.1.1)))) (fun hn_ => (.inr (Nat.le_trans (below_size (by repeat (first | (with_reducible first | exact HB.out | apply below_alloc | apply pw_below_drewN | apply below_drew1 | refine below_set ?_ GE579.out | refine below_set ?_ GE580.out | refine below_set ?_ GE583.out) | exact HB.out))) hn_))), Or.elim hk_ (fun hs_ => Or.elim hs_ (fun hs_ => hs_.1.2.1) (fun hs_ => ((Kd.R_types (Kd.R_types (HO589.out) BK579.out (by decide)) BK580.out (by decide)).1 k_ hs_.symm).1.2)) (fun hn_ => (Kd.freshB (g := gb579) (o := .cells #[.int .i64 a0_0, .slice A0_1 l0_1.length c0_1] 46 (0, 0)) (by (with_reducible repeat (first | refine blk_drewN ?_ _ | refine blk_drew ?_ | refine blk_alloc ?_ _)); exact BK579.out) k_ hn_)), Or.elim hk_ (fun hs_ => Or.elim hs_ (fun hs_ => hs_.1.2.2.1) (fun hs_ => ((Kd.R_types (Kd.R_types (HO589.out) BK579.out (by decide)) BK580.out (by decide)).1 k_ hs_.symm).2)) (fun hn_ => (Kd.freshB (g := gb580) (o := .cells #[.int .i64 0, .slice none 0 0] 46 (0, 0)) (by (with_reducible repeat (first | refine blk_drewN ?_ _ | refine blk_drew ?_ | refine blk_alloc ?_ _)); exact BK580.out) k_ hn_)), Or.elim hk_ (fun hs_ => Or.elim hs_ (fun hs_ => hs_.1.2.2.2) (fun hs_ => ((Kd.R_types (Kd.R_types (HO589.out) BK579.out (by decide)) BK580.out (by decide)).1 k_ hs_.symm).1.1.2)) (fun hn_ => (Kd.freshB (g := gb583) (o := .cells #[.string x584000_4, .string a2, .string x584002_4] 55 (0, 0)) (by (with_reducible repeat (first | refine blk_drewN ?_ _ | refine blk_drew ?_ | refine blk_alloc ?_ _)); exact BK583.out) k_ hn_))⟩)) (below_size (by repeat (first | (with_reducible first | exact HB.out | apply below_alloc | apply pw_below_drewN | apply below_drew1 | refine below_set ?_ GE579.out | refine below_set ?_ GE580.out | refine below_set ?_ GE583.out) | exact HB.out)))); have n3_ := Aside0.mk (blk_below (g := gb579) (o := .cells #[.int .i64 a0_0, .slice A0_1 l0_1.length c0_1] 46 (0, 0)) (by (with_reducible repeat (first | refine blk_drewN ?_ _ | refine blk_drew ?_ | refine blk_alloc ?_ _)); exact BK579.out) hb); have n4_ := Aside0.mk (blk_below (g := gb580) (o := .cells #[.int .i64 0, .slice none 0 0] 46 (0, 0)) (by (with_reducible repeat (first | refine blk_drewN ?_ _ | refine blk_drew ?_ | refine blk_alloc ?_ _)); exact BK580.out) hb); have n5_ := Aside0.mk (blk_below (g := gb583) (o := .cells #[.string x584000_4, .string a2, .string x584002_4] 55 (0, 0)) (by (with_reducible repeat (first | refine blk_drewN ?_ _ | refine blk_drew ?_ | refine blk_alloc ?_ _)); exact BK583.out) hb); have n6_ := Aside0.mk (below_step (by repeat (first | (with_reducible first | exact HB.out | apply below_alloc | apply pw_below_drewN | apply below_drew1 | refine below_set ?_ GE579.out | refine below_set ?_ GE580.out | refine below_set ?_ GE583.out) | exact HB.out)) hb); clear HO_580001; clear HO589; clear BK579; clear BK580; clear BK583; clear HB; have HO_580001 := n0_; have HO589 := n1_; have HO592 := n2_; have BK579 := n3_; have BK580 := n4_; have BK583 := n5_; have HB := n6_; clear n0_ n1_ n2_ n3_ n4_ n5_ n6_; (try clear hb); (try clear hb2); (try clear hk); (try clear hi); (try clear ho0); obtain ⟨Ao47, co47, eo47⟩ := Kd.V_slice HO592.out; subst eo47; have hcz48_0 : w46.cell? ⟨gb579, 0, none⟩ = some (.int .i64 a0_0) := (blk_cell BK579.out 0).trans rfl; have hcz48_1 : w46.cell? ⟨gb579, 1, none⟩ = some (.slice A0_1 l0_1.length c0_1) := (blk_cell BK579.out 1).trans rfl; have hfz48_0 := blk_frozen BK579.out 0; have hfz48_1 := blk_frozen BK579.out 1; have hcz49_0 : w46.cell? ⟨gb580, 0, none⟩ = some (.int .i64 0) := (blk_cell BK580.out 0).trans rfl; have hcz49_1 : w46.cell? ⟨gb580, 1, none⟩ = some (.slice none 0 0) := (blk_cell BK580.out 1).trans rfl; have hfz49_0 := blk_frozen BK580.out 0; have hfz49_1 := blk_frozen BK580.out 1))
            refine bodyPost_ret (results_ct rfl _ _ gb580 46 #[.int .i64 a0_0, .slice Ao47 t590.length co47] (0, 0) _ rfl (by (with_reducible repeat (first | refine blk_drewN ?_ _ | refine blk_drew ?_ | refine blk_alloc ?_ _)); refine blk_put (cs := #[.int .i64 a0_0, .slice none 0 0]) ?_ 1 _ rfl; (with_reducible repeat (first | refine blk_drewN ?_ _ | refine blk_drew ?_ | refine blk_alloc ?_ _)); refine blk_put (cs := #[.int .i64 0, .slice none 0 0]) ?_ 0 _ rfl; (with_reducible repeat (first | refine blk_drewN ?_ _ | refine blk_drew ?_ | refine blk_alloc ?_ _)); refine blk_far ?_ NB580_579.out _; (with_reducible repeat (first | refine blk_drewN ?_ _ | refine blk_drew ?_ | refine blk_alloc ?_ _)); exact BK580.out) Try.underlying46 rfl (by kernel_rfl)) rfl ?_
            exact ⟨_, by first | rfl | (simp [errW_none, errW_some] <;> rfl) | (simp [*, errW_none, errW_some] <;> rfl), by (with_reducible repeat (first | apply Kd.V_alloc | apply Kd.V_drewN | apply Kd.V_drew)); exact Kd.V_mono (Kd.V_far (p := ⟨gb580, 1, none⟩) (Kd.V_far (p := ⟨gb580, 0, none⟩) (Kd.V_far (p := ⟨gb579, 1, none⟩) (Kd.V_mono (Kd.V_mono HO592.out (fun k_ hk => (⟨hk, hk.2.1⟩ : _ ∧ k_ ≠ gb579))) (fun k_ hk => (⟨hk, hk.1.2.2.1⟩ : _ ∧ k_ ≠ gb580))) (fun _ hk => hk.1.2) (.slice Ao47 t590.length co47)) (fun _ hk => hk.2) (.int .i64 a0_0)) (fun _ hk => hk.2) (.slice Ao47 t590.length co47)) (fun _ hk => hk.1.1.1), by repeat (first | (with_reducible first | exact HB.out | apply below_alloc | apply pw_below_drewN | apply below_drew1 | refine below_set ?_ GE579.out | refine below_set ?_ GE580.out | refine below_set ?_ GE583.out) | exact HB.out)⟩
        · replace c26 := Bool.eq_false_iff.mpr c26
          subst c26
          have H1 : (if (l0_1.length : Int) ≥ 64 then (some (a0_0, l0_1, 8)) else (if (a2.size : Int) > (wrap64 (a0_0 - (wrap64 (t585 - (x584001_4.size : Int))))) then (some (a0_0, l0_1, 8)) else ((api_File_50.f l0_1 t581 x11_4 (([(⟨x584000_4, a2, x584002_4⟩ : S55)] : List (S55)))).bind fun t596 => (some (a0_0, t596, 0))))) = some (r1, r2, r3) := by rw [if_neg (show ¬ (false = true) by decide)] at H; exact H
          clear H
          have H := H1
          clear H1
          by_cases c50 : (l0_1.length : Int) ≥ 64
          · rw [if_pos c50] at H
            have c50b0 : decide (64 ≤ (l0_1.length : Int)) = true := decide_eq_true c50
            have c50b1 : decide (64 ≤ l0_1.length) = true := decide_eq_true (by omega)
            clear c50
            simp only [Option.some.injEq, Prod.mk.injEq] at H
            obtain ⟨rfl, rfl, rfl⟩ := H
            try go_wp2
            have n0_ := Aside0.mk (Kd.V_drew HO_580001.out)
            have n1_ := Aside0.mk (blk_drew BK579.out)
            have n2_ := Aside0.mk (blk_drew BK580.out)
            have n3_ := Aside0.mk (blk_drew BK583.out)
            have n4_ := Aside0.mk (below_drew1 HB.out)
            clear HO_580001
            clear BK579
            clear BK580
            clear BK583
            clear HB
            have HO_580001 := n0_
            have BK579 := n1_
            have BK580 := n2_
            have BK583 := n3_
            have HB := n4_
            clear n0_ n1_ n2_ n3_ n4_
            refine start_ (n := 7) (S := fun w' => w'.cell? ⟨gb579, 0, none⟩ = some (.int .i64 a0_0) ∧ w'.cell? ⟨gb579, 1, none⟩ = some (.slice A0_1 l0_1.length c0_1) ∧ w'.cell? ⟨gb583, 0, none⟩ = some (.string x584000_4) ∧ w'.cell? ⟨gb583, 1, none⟩ = some (.string x584001_4) ∧ w'.cell? ⟨gb583, 2, none⟩ = some (.string x584002_4)) (ds := []) #[false, false, false, false, false, false, false] (by kernel_rfl) rfl rfl ⟨(blk_cell BK579.out 0).trans rfl, (blk_cell BK579.out 1).trans rfl, (blk_cell BK583.out 0).trans rfl, (blk_cell BK583.out 1).trans rfl, (blk_cell BK583.out 2).trans rfl⟩ (fun hHeld => ?_)
            generalize wc.drew = w51 at HO_580001 BK579 BK580 BK583 HB hHeld ⊢
            refine pure_ (i := 2) (N := some 29) (v := ?_) (a' := ?_) #[false, false, true, false, false, false, false] rfl rfl (by kernel_rfl) (fun _ _ _ h => h) (Or.inl ⟨by rfl, ?_⟩) ?_ ?_
            rotate_left
            · intro w'
              go_simp
              with_reducible rfl
            rotate_left
            · simp only [Act.put, List.setIfInBounds_toArray, List.set_cons_zero, List.set_cons_succ, i64_w, i32_w]
              rfl
            refine take_ (i := 0) (N := some 27) (v := ?_) (a' := ?_) #[true, false, true, false, false, false, false] rfl rfl (by kernel_rfl) (fun _ _ _ h => h) (Or.inl ⟨by rfl, ?_⟩) hHeld ?_ ?_
            rotate_left
            · rintro w' ⟨s0, s1, s2, s3, s4⟩
              go_simp
              with_reducible rfl
            rotate_left
            · simp only [Act.put, List.setIfInBounds_toArray, List.set_cons_zero, List.set_cons_succ, i64_w, i32_w]
              rfl
            refine take_ (i := 3) (N := some 30) (v := ?_) (a' := ?_) #[true, false, true, true, false, false, false] rfl rfl (by kernel_rfl) (fun _ _ _ h => h) (Or.inl ⟨by rfl, ?_⟩) hHeld ?_ ?_
            rotate_left
            · rintro w' ⟨s0, s1, s2, s3, s4⟩
              go_simp
              with_reducible rfl
            rotate_left
            · simp only [Act.put, List.setIfInBounds_toArray, List.set_cons_zero, List.set_cons_succ, i64_w, i32_w]
              rfl
            refine pure_ (i := 4) (N := some 31) (v := ?_) (a' := ?_) #[true, false, true, true, true, false, false] rfl rfl (by kernel_rfl) (fun _ _ _ h => h) (Or.inl ⟨by rfl, ?_⟩) ?_ ?_
            rotate_left
            · intro w'
              go_simp
              with_reducible rfl
            rotate_left
            · simp only [Act.put, List.setIfInBounds_toArray, List.set_cons_zero, List.set_cons_succ, i64_w, i32_w]
              rfl
            refine one_ (i := 1) (N := some 28) #[true, true, true, true, true, false, false] rfl rfl (by kernel_rfl) (by decide) (fun K hK => ?_)
            refine goes_ Try.func30 (by kernel_rfl) rfl #[.agg #[.int .i64 a0_0, .slice A0_1 l0_1.length c0_1]] (by rfl) rfl rfl (by (try simp only [List.map_toArray, List.map_cons, List.map_nil]); first | done | rfl | (simp only [List.length_drop, List.length_take]; rfl)) ?_
            with_reducible refine (disk_Used.calls kj4 a0_0 _ _ l0_1 t585 _ ?side1 ?side2 A23.out).mono ?_
            (case side1 => repeat (first | exact (Kd.V_reads' HO_580001.out).2.2 | (with_reducible refine Kd.C_alloc ?_ _) | (with_reducible refine Kd.C_drewN ?_ _) | (with_reducible refine Kd.C_drew ?_)))
            (case side2 => exact (Kd.V_reads' HO_580001.out).2.1)
            rintro e w52 ⟨rfl, hb⟩
            refine ⟨_, rfl, ?_⟩
            have n0_ := Aside0.mk (Kd.V_below (by (with_reducible repeat (first | apply Kd.V_alloc | apply Kd.V_drewN | apply Kd.V_drew)); exact HO_580001.out) hb)
            have n1_ := Aside0.mk (blk_below (g := gb579) (o := .cells #[.int .i64 a0_0, .slice A0_1 l0_1.length c0_1] 46 (0, 0)) (by (with_reducible repeat (first | refine blk_drewN ?_ _ | refine blk_drew ?_ | refine blk_alloc ?_ _)); exact BK579.out) hb)
            have n2_ := Aside0.mk (blk_below (g := gb580) (o := .cells #[.int .i64 0, .slice none 0 0] 46 (0, 0)) (by (with_reducible repeat (first | refine blk_drewN ?_ _ | refine blk_drew ?_ | refine blk_alloc ?_ _)); exact BK580.out) hb)
            have n3_ := Aside0.mk (blk_below (g := gb583) (o := .cells #[.string x584000_4, .string x584001_4, .string x584002_4] 55 (0, 0)) (by (with_reducible repeat (first | refine blk_drewN ?_ _ | refine blk_drew ?_ | refine blk_alloc ?_ _)); exact BK583.out) hb)
            have n4_ := Aside0.mk (below_step (by repeat (first | (with_reducible first | exact HB.out | apply below_alloc | apply pw_below_drewN | apply below_drew1 | refine below_set ?_ GE579.out | refine below_set ?_ GE580.out | refine below_set ?_ GE583.out) | exact HB.out)) hb)
            clear HO_580001
            clear BK579
            clear BK580
            clear BK583
            clear HB
            have HO_580001 := n0_
            have BK579 := n1_
            have BK580 := n2_
            have BK583 := n3_
            have HB := n4_
            clear n0_ n1_ n2_ n3_ n4_
            (try clear hb)
            (try clear hb2)
            (try clear hk)
            (try clear hi)
            refine hK.out _ _ ⟨(blk_cell BK579.out 0).trans rfl, (blk_cell BK579.out 1).trans rfl, (blk_cell BK583.out 0).trans rfl, (blk_cell BK583.out 1).trans rfl, (blk_cell BK583.out 2).trans rfl⟩ (fun hHeld => ?_)
            clear hK K
            refine norm_ (a' := ?_) ?_ ?_
            rotate_left
            · show Act.put _ (some 28) _ = _
              simp only [Act.put, List.setIfInBounds_toArray, List.set_cons_zero, List.set_cons_succ, i64_w, i32_w]
              rfl
            refine pure_ (i := 5) (N := some 32) (v := ?_) (a' := ?_) #[true, true, true, true, true, true, false] rfl rfl (by kernel_rfl) (fun _ _ _ h => h) (Or.inl ⟨by rfl, ?_⟩) ?_ ?_
            rotate_left
            · intro w'
              go_simp
              with_reducible rfl
            rotate_left
            · simp only [Act.put, List.setIfInBounds_toArray, List.set_cons_zero, List.set_cons_succ, i64_w, i32_w]
              rfl
            refine pure_ (i := 6) (N := some 12) (v := ?_) (a' := ?_) #[true, true, true, true, true, true, true] rfl rfl (by kernel_rfl) (fun _ _ _ h => h) (Or.inl ⟨by rfl, ?_⟩) ?_ ?_
            rotate_left
            · intro w'
              go_simp
              with_reducible rfl
            rotate_left
            · simp only [Act.put, List.setIfInBounds_toArray, List.set_cons_zero, List.set_cons_succ, i64_w, i32_w]
              rfl
            refine done_ (by kernel_rfl) ?_
            try go_wp2_with (first | ((with_reducible refine gate_callee (f := 49) rfl ?_); refine goesL_ (some 35) rfl rfl Try.func49 (by kernel_rfl) rfl #[.string a1] rfl (by (try simp only [List.map_toArray, List.map_cons, List.map_nil]); first | done | rfl | (simp only [List.length_drop, List.length_take]; rfl)) ?_; (with_reducible refine (disk_name.calls a1 true _ A24.out).mono ?_); rintro e w' ⟨rfl, ⟨nd, rfl⟩⟩; refine ⟨_, rfl, ?_⟩; (try (rw [drewN_self w52]; generalize hq_ : World.drewN w52 _ = w52; have n0_ : Aside0 (Kd.V k55 55 w52 w.heap.size (fun k_ => (P0_1_ k_ ∨ w.heap.size ≤ k_) ∧ k_ ≠ gb579 ∧ k_ ≠ gb580 ∧ k_ ≠ gb583) (.slice A0_1 l0_1.length c0_1) l0_1) := ⟨by rw [← hq_]; exact (by (with_reducible repeat (first | apply Kd.V_alloc | apply Kd.V_drewN | apply Kd.V_drew)); exact HO_580001.out)⟩; have n1_ : Aside0 (w52.heap[gb579]? = some (.cells #[.int .i64 a0_0, .slice A0_1 l0_1.length c0_1] 46 (0, 0))) := ⟨by rw [← hq_]; exact (by (with_reducible repeat (first | refine blk_drewN ?_ _ | refine blk_drew ?_ | refine blk_alloc ?_ _)); exact BK579.out)⟩; have n2_ : Aside0 (w52.heap[gb580]? = some (.cells #[.int .i64 0, .slice none 0 0] 46 (0, 0))) := ⟨by rw [← hq_]; exact (by (with_reducible repeat (first | refine blk_drewN ?_ _ | refine blk_drew ?_ | refine blk_alloc ?_ _)); exact BK580.out)⟩; have n3_ : Aside0 (w52.heap[gb583]? = some (.cells #[.string x584000_4, .string x584001_4, .string x584002_4] 55 (0, 0))) := ⟨by rw [← hq_]; exact (by (with_reducible repeat (first | refine blk_drewN ?_ _ | refine blk_drew ?_ | refine blk_alloc ?_ _)); exact BK583.out)⟩; have n4_ : Aside0 (Below w.heap.size w w52) := ⟨by rw [← hq_]; exact (by repeat (first | (with_reducible first | exact HB.out | apply below_alloc | apply pw_below_drewN | apply below_drew1 | refine below_set ?_ GE579.out | refine below_set ?_ GE580.out | refine below_set ?_ GE583.out) | exact HB.out))⟩; clear HO_580001 BK579 BK580 BK583 HB hq_; have HO_580001 := n0_; have BK579 := n1_; have BK580 := n2_; have BK583 := n3_; have HB := n4_; clear n0_ n1_ n2_ n3_ n4_)); have hnb53 := NB579_580.out; have hnc53 := NB580_579.out; have hnb54 := NB579_583.out; have hnc54 := NB583_579.out; have hcz55_0 : w52.cell? ⟨gb579, 0, none⟩ = some (.int .i64 a0_0) := (blk_cell BK579.out 0).trans rfl; have hcz55_1 : w52.cell? ⟨gb579, 1, none⟩ = some (.slice A0_1 l0_1.length c0_1) := (blk_cell BK579.out 1).trans rfl; have hfz55_0 := blk_frozen BK579.out 0; have hfz55_1 := blk_frozen BK579.out 1; have hnb56 := NB580_583.out; have hnc56 := NB583_580.out; have hcz57_0 : w52.cell? ⟨gb580, 0, none⟩ = some (.int .i64 0) := (blk_cell BK580.out 0).trans rfl; have hcz57_1 : w52.cell? ⟨gb580, 1, none⟩ = some (.slice none 0 0) := (blk_cell BK580.out 1).trans rfl; have hfz57_0 := blk_frozen BK580.out 0; have hfz57_1 := blk_frozen BK580.out 1))
            refine bodyPost_ret (results_ct rfl _ _ gb580 46 #[.int .i64 a0_0, .slice A0_1 l0_1.length c0_1] (0, 0) _ rfl (by (with_reducible repeat (first | refine blk_drewN ?_ _ | refine blk_drew ?_ | refine blk_alloc ?_ _)); refine blk_put (cs := #[.int .i64 a0_0, .slice none 0 0]) ?_ 1 _ rfl; (with_reducible repeat (first | refine blk_drewN ?_ _ | refine blk_drew ?_ | refine blk_alloc ?_ _)); refine blk_put (cs := #[.int .i64 0, .slice none 0 0]) ?_ 0 _ rfl; (with_reducible repeat (first | refine blk_drewN ?_ _ | refine blk_drew ?_ | refine blk_alloc ?_ _)); exact BK580.out) Try.underlying46 rfl (by kernel_rfl)) rfl ?_
            exact ⟨_, by first | rfl | (simp [errW_none, errW_some] <;> rfl) | (simp [*, errW_none, errW_some] <;> rfl), by (with_reducible repeat (first | apply Kd.V_alloc | apply Kd.V_drewN | apply Kd.V_drew)); exact Kd.V_mono (Kd.V_far (p := ⟨gb580, 1, none⟩) (Kd.V_far (p := ⟨gb580, 0, none⟩) (Kd.V_mono HO_580001.out (fun k_ hk => (⟨hk, hk.2.2.1⟩ : _ ∧ k_ ≠ gb580))) (fun _ hk => hk.2) (.int .i64 a0_0)) (fun _ hk => hk.2) (.slice A0_1 l0_1.length c0_1)) (fun _ hk => hk.1.1), by repeat (first | (with_reducible first | exact HB.out | apply below_alloc | apply pw_below_drewN | apply below_drew1 | refine below_set ?_ GE579.out | refine below_set ?_ GE580.out | refine below_set ?_ GE583.out) | exact HB.out)⟩
          · rw [if_neg c50] at H
            have c50b0 : decide (64 ≤ (l0_1.length : Int)) = false := decide_eq_false c50
            have c50b1 : decide (64 ≤ l0_1.length) = false := decide_eq_false (by omega)
            clear c50
            by_cases c58 : (a2.size : Int) > (wrap64 (a0_0 - (wrap64 (t585 - (x584001_4.size : Int)))))
            · rw [if_pos c58] at H
              have c58b0 : decide ((wrap64 (a0_0 - (wrap64 (t585 - (x584001_4.size : Int))))) < (a2.size : Int)) = true := decide_eq_true c58
              clear c58
              simp only [Option.some.injEq, Prod.mk.injEq] at H
              obtain ⟨rfl, rfl, rfl⟩ := H
              try go_wp2
              have n0_ := Aside0.mk (Kd.V_drew HO_580001.out)
              have n1_ := Aside0.mk (blk_drew BK579.out)
              have n2_ := Aside0.mk (blk_drew BK580.out)
              have n3_ := Aside0.mk (blk_drew BK583.out)
              have n4_ := Aside0.mk (below_drew1 HB.out)
              clear HO_580001
              clear BK579
              clear BK580
              clear BK583
              clear HB
              have HO_580001 := n0_
              have BK579 := n1_
              have BK580 := n2_
              have BK583 := n3_
              have HB := n4_
              clear n0_ n1_ n2_ n3_ n4_
              refine start_ (n := 7) (S := fun w' => w'.cell? ⟨gb579, 0, none⟩ = some (.int .i64 a0_0) ∧ w'.cell? ⟨gb579, 1, none⟩ = some (.slice A0_1 l0_1.length c0_1) ∧ w'.cell? ⟨gb583, 0, none⟩ = some (.string x584000_4) ∧ w'.cell? ⟨gb583, 1, none⟩ = some (.string x584001_4) ∧ w'.cell? ⟨gb583, 2, none⟩ = some (.string x584002_4)) (ds := []) #[false, false, false, false, false, false, false] (by kernel_rfl) rfl rfl ⟨(blk_cell BK579.out 0).trans rfl, (blk_cell BK579.out 1).trans rfl, (blk_cell BK583.out 0).trans rfl, (blk_cell BK583.out 1).trans rfl, (blk_cell BK583.out 2).trans rfl⟩ (fun hHeld => ?_)
              generalize wc.drew = w59 at HO_580001 BK579 BK580 BK583 HB hHeld ⊢
              refine pure_ (i := 2) (N := some 29) (v := ?_) (a' := ?_) #[false, false, true, false, false, false, false] rfl rfl (by kernel_rfl) (fun _ _ _ h => h) (Or.inl ⟨by rfl, ?_⟩) ?_ ?_
              rotate_left
              · intro w'
                go_simp
                with_reducible rfl
              rotate_left
              · simp only [Act.put, List.setIfInBounds_toArray, List.set_cons_zero, List.set_cons_succ, i64_w, i32_w]
                rfl
              refine take_ (i := 0) (N := some 27) (v := ?_) (a' := ?_) #[true, false, true, false, false, false, false] rfl rfl (by kernel_rfl) (fun _ _ _ h => h) (Or.inl ⟨by rfl, ?_⟩) hHeld ?_ ?_
              rotate_left
              · rintro w' ⟨s0, s1, s2, s3, s4⟩
                go_simp
                with_reducible rfl
              rotate_left
              · simp only [Act.put, List.setIfInBounds_toArray, List.set_cons_zero, List.set_cons_succ, i64_w, i32_w]
                rfl
              refine take_ (i := 3) (N := some 30) (v := ?_) (a' := ?_) #[true, false, true, true, false, false, false] rfl rfl (by kernel_rfl) (fun _ _ _ h => h) (Or.inl ⟨by rfl, ?_⟩) hHeld ?_ ?_
              rotate_left
              · rintro w' ⟨s0, s1, s2, s3, s4⟩
                go_simp
                with_reducible rfl
              rotate_left
              · simp only [Act.put, List.setIfInBounds_toArray, List.set_cons_zero, List.set_cons_succ, i64_w, i32_w]
                rfl
              refine pure_ (i := 4) (N := some 31) (v := ?_) (a' := ?_) #[true, false, true, true, true, false, false] rfl rfl (by kernel_rfl) (fun _ _ _ h => h) (Or.inl ⟨by rfl, ?_⟩) ?_ ?_
              rotate_left
              · intro w'
                go_simp
                with_reducible rfl
              rotate_left
              · simp only [Act.put, List.setIfInBounds_toArray, List.set_cons_zero, List.set_cons_succ, i64_w, i32_w]
                rfl
              refine one_ (i := 1) (N := some 28) #[true, true, true, true, true, false, false] rfl rfl (by kernel_rfl) (by decide) (fun K hK => ?_)
              refine goes_ Try.func30 (by kernel_rfl) rfl #[.agg #[.int .i64 a0_0, .slice A0_1 l0_1.length c0_1]] (by rfl) rfl rfl (by (try simp only [List.map_toArray, List.map_cons, List.map_nil]); first | done | rfl | (simp only [List.length_drop, List.length_take]; rfl)) ?_
              with_reducible refine (disk_Used.calls kj4 a0_0 _ _ l0_1 t585 _ ?side1 ?side2 A23.out).mono ?_
              (case side1 => repeat (first | exact (Kd.V_reads' HO_580001.out).2.2 | (with_reducible refine Kd.C_alloc ?_ _) | (with_reducible refine Kd.C_drewN ?_ _) | (with_reducible refine Kd.C_drew ?_)))
              (case side2 => exact (Kd.V_reads' HO_580001.out).2.1)
              rintro e w60 ⟨rfl, hb⟩
              refine ⟨_, rfl, ?_⟩
              have n0_ := Aside0.mk (Kd.V_below (by (with_reducible repeat (first | apply Kd.V_alloc | apply Kd.V_drewN | apply Kd.V_drew)); exact HO_580001.out) hb)
              have n1_ := Aside0.mk (blk_below (g := gb579) (o := .cells #[.int .i64 a0_0, .slice A0_1 l0_1.length c0_1] 46 (0, 0)) (by (with_reducible repeat (first | refine blk_drewN ?_ _ | refine blk_drew ?_ | refine blk_alloc ?_ _)); exact BK579.out) hb)
              have n2_ := Aside0.mk (blk_below (g := gb580) (o := .cells #[.int .i64 0, .slice none 0 0] 46 (0, 0)) (by (with_reducible repeat (first | refine blk_drewN ?_ _ | refine blk_drew ?_ | refine blk_alloc ?_ _)); exact BK580.out) hb)
              have n3_ := Aside0.mk (blk_below (g := gb583) (o := .cells #[.string x584000_4, .string x584001_4, .string x584002_4] 55 (0, 0)) (by (with_reducible repeat (first | refine blk_drewN ?_ _ | refine blk_drew ?_ | refine blk_alloc ?_ _)); exact BK583.out) hb)
              have n4_ := Aside0.mk (below_step (by repeat (first | (with_reducible first | exact HB.out | apply below_alloc | apply pw_below_drewN | apply below_drew1 | refine below_set ?_ GE579.out | refine below_set ?_ GE580.out | refine below_set ?_ GE583.out) | exact HB.out)) hb)
              clear HO_580001
              clear BK579
              clear BK580
              clear BK583
              clear HB
              have HO_580001 := n0_
              have BK579 := n1_
              have BK580 := n2_
              have BK583 := n3_
              have HB := n4_
              clear n0_ n1_ n2_ n3_ n4_
              (try clear hb)
              (try clear hb2)
              (try clear hk)
              (try clear hi)
              refine hK.out _ _ ⟨(blk_cell BK579.out 0).trans rfl, (blk_cell BK579.out 1).trans rfl, (blk_cell BK583.out 0).trans rfl, (blk_cell BK583.out 1).trans rfl, (blk_cell BK583.out 2).trans rfl⟩ (fun hHeld => ?_)
              clear hK K
              refine norm_ (a' := ?_) ?_ ?_
              rotate_left
              · show Act.put _ (some 28) _ = _
                simp only [Act.put, List.setIfInBounds_toArray, List.set_cons_zero, List.set_cons_succ, i64_w, i32_w]
                rfl
              refine pure_ (i := 5) (N := some 32) (v := ?_) (a' := ?_) #[true, true, true, true, true, true, false] rfl rfl (by kernel_rfl) (fun _ _ _ h => h) (Or.inl ⟨by rfl, ?_⟩) ?_ ?_
              rotate_left
              · intro w'
                go_simp
                with_reducible rfl
              rotate_left
              · simp only [Act.put, List.setIfInBounds_toArray, List.set_cons_zero, List.set_cons_succ, i64_w, i32_w]
                rfl
              refine pure_ (i := 6) (N := some 12) (v := ?_) (a' := ?_) #[true, true, true, true, true, true, true] rfl rfl (by kernel_rfl) (fun _ _ _ h => h) (Or.inl ⟨by rfl, ?_⟩) ?_ ?_
              rotate_left
              · intro w'
                go_simp
                with_reducible rfl
              rotate_left
              · simp only [Act.put, List.setIfInBounds_toArray, List.set_cons_zero, List.set_cons_succ, i64_w, i32_w]
                rfl
              refine done_ (by kernel_rfl) ?_
              try go_wp2_with (first | ((with_reducible refine gate_callee (f := 49) rfl ?_); refine goesL_ (some 35) rfl rfl Try.func49 (by kernel_rfl) rfl #[.string a1] rfl (by (try simp only [List.map_toArray, List.map_cons, List.map_nil]); first | done | rfl | (simp only [List.length_drop, List.length_take]; rfl)) ?_; (with_reducible refine (disk_name.calls a1 true _ A24.out).mono ?_); rintro e w' ⟨rfl, ⟨nd, rfl⟩⟩; refine ⟨_, rfl, ?_⟩; (try (rw [drewN_self w60]; generalize hq_ : World.drewN w60 _ = w60; have n0_ : Aside0 (Kd.V k55 55 w60 w.heap.size (fun k_ => (P0_1_ k_ ∨ w.heap.size ≤ k_) ∧ k_ ≠ gb579 ∧ k_ ≠ gb580 ∧ k_ ≠ gb583) (.slice A0_1 l0_1.length c0_1) l0_1) := ⟨by rw [← hq_]; exact (by (with_reducible repeat (first | apply Kd.V_alloc | apply Kd.V_drewN | apply Kd.V_drew)); exact HO_580001.out)⟩; have n1_ : Aside0 (w60.heap[gb579]? = some (.cells #[.int .i64 a0_0, .slice A0_1 l0_1.length c0_1] 46 (0, 0))) := ⟨by rw [← hq_]; exact (by (with_reducible repeat (first | refine blk_drewN ?_ _ | refine blk_drew ?_ | refine blk_alloc ?_ _)); exact BK579.out)⟩; have n2_ : Aside0 (w60.heap[gb580]? = some (.cells #[.int .i64 0, .slice none 0 0] 46 (0, 0))) := ⟨by rw [← hq_]; exact (by (with_reducible repeat (first | refine blk_drewN ?_ _ | refine blk_drew ?_ | refine blk_alloc ?_ _)); exact BK580.out)⟩; have n3_ : Aside0 (w60.heap[gb583]? = some (.cells #[.string x584000_4, .string x584001_4, .string x584002_4] 55 (0, 0))) := ⟨by rw [← hq_]; exact (by (with_reducible repeat (first | refine blk_drewN ?_ _ | refine blk_drew ?_ | refine blk_alloc ?_ _)); exact BK583.out)⟩; have n4_ : Aside0 (Below w.heap.size w w60) := ⟨by rw [← hq_]; exact (by repeat (first | (with_reducible first | exact HB.out | apply below_alloc | apply pw_below_drewN | apply below_drew1 | refine below_set ?_ GE579.out | refine below_set ?_ GE580.out | refine below_set ?_ GE583.out) | exact HB.out))⟩; clear HO_580001 BK579 BK580 BK583 HB hq_; have HO_580001 := n0_; have BK579 := n1_; have BK580 := n2_; have BK583 := n3_; have HB := n4_; clear n0_ n1_ n2_ n3_ n4_)); have hnb61 := NB579_580.out; have hnc61 := NB580_579.out; have hnb62 := NB579_583.out; have hnc62 := NB583_579.out; have hcz63_0 : w60.cell? ⟨gb579, 0, none⟩ = some (.int .i64 a0_0) := (blk_cell BK579.out 0).trans rfl; have hcz63_1 : w60.cell? ⟨gb579, 1, none⟩ = some (.slice A0_1 l0_1.length c0_1) := (blk_cell BK579.out 1).trans rfl; have hfz63_0 := blk_frozen BK579.out 0; have hfz63_1 := blk_frozen BK579.out 1; have hnb64 := NB580_583.out; have hnc64 := NB583_580.out; have hcz65_0 : w60.cell? ⟨gb580, 0, none⟩ = some (.int .i64 0) := (blk_cell BK580.out 0).trans rfl; have hcz65_1 : w60.cell? ⟨gb580, 1, none⟩ = some (.slice none 0 0) := (blk_cell BK580.out 1).trans rfl; have hfz65_0 := blk_frozen BK580.out 0; have hfz65_1 := blk_frozen BK580.out 1))
              refine bodyPost_ret (results_ct rfl _ _ gb580 46 #[.int .i64 a0_0, .slice A0_1 l0_1.length c0_1] (0, 0) _ rfl (by (with_reducible repeat (first | refine blk_drewN ?_ _ | refine blk_drew ?_ | refine blk_alloc ?_ _)); refine blk_put (cs := #[.int .i64 a0_0, .slice none 0 0]) ?_ 1 _ rfl; (with_reducible repeat (first | refine blk_drewN ?_ _ | refine blk_drew ?_ | refine blk_alloc ?_ _)); refine blk_put (cs := #[.int .i64 0, .slice none 0 0]) ?_ 0 _ rfl; (with_reducible repeat (first | refine blk_drewN ?_ _ | refine blk_drew ?_ | refine blk_alloc ?_ _)); exact BK580.out) Try.underlying46 rfl (by kernel_rfl)) rfl ?_
              exact ⟨_, by first | rfl | (simp [errW_none, errW_some] <;> rfl) | (simp [*, errW_none, errW_some] <;> rfl), by (with_reducible repeat (first | apply Kd.V_alloc | apply Kd.V_drewN | apply Kd.V_drew)); exact Kd.V_mono (Kd.V_far (p := ⟨gb580, 1, none⟩) (Kd.V_far (p := ⟨gb580, 0, none⟩) (Kd.V_mono HO_580001.out (fun k_ hk => (⟨hk, hk.2.2.1⟩ : _ ∧ k_ ≠ gb580))) (fun _ hk => hk.2) (.int .i64 a0_0)) (fun _ hk => hk.2) (.slice A0_1 l0_1.length c0_1)) (fun _ hk => hk.1.1), by repeat (first | (with_reducible first | exact HB.out | apply below_alloc | apply pw_below_drewN | apply below_drew1 | refine below_set ?_ GE579.out | refine below_set ?_ GE580.out | refine below_set ?_ GE583.out) | exact HB.out)⟩
            · rw [if_neg c58] at H
              have c58b0 : decide ((wrap64 (a0_0 - (wrap64 (t585 - (x584001_4.size : Int))))) < (a2.size : Int)) = false := decide_eq_false c58
              clear c58
              obtain ⟨y593, hy593⟩ : ∃ y_ : List (S55), y_ = (([(⟨x584000_4, a2, x584002_4⟩ : S55)] : List (S55))) := ⟨_, rfl⟩
              replace H : ((api_File_50.f l0_1 t581 x11_4 y593).bind fun t596 => (some (a0_0, t596, 0))) = some (r1, r2, r3) := by first | (rw [hy593]; with_reducible exact H) | (have H2_ := (Option.bind_some _ _).symm.trans H; rw [hy593]; with_reducible exact H2_) | (have H2_ := (Option.bind_some _ _).symm.trans H; with_reducible exact H2_) | with_reducible exact H | (rw [hy593]; exact H) | exact H
              have Ny593 := Aside0.mk hy593
              clear hy593
              replace H := Option.bind_eq_some_iff.mp H
              obtain ⟨t596, A660, H⟩ := H
              replace H : (some (a0_0, t596, 0)) = some (r1, r2, r3) := H
              have A66 := Aside0.mk A660
              clear A660
              simp only [Option.some.injEq, Prod.mk.injEq] at H
              obtain ⟨rfl, rfl, rfl⟩ := H
              try go_wp2
              have n0_ := Aside0.mk (Kd.V_drew HO_580001.out)
              have n1_ := Aside0.mk (blk_drew BK579.out)
              have n2_ := Aside0.mk (blk_drew BK580.out)
              have n3_ := Aside0.mk (blk_drew BK583.out)
              have n4_ := Aside0.mk (below_drew1 HB.out)
              clear HO_580001
              clear BK579
              clear BK580
              clear BK583
              clear HB
              have HO_580001 := n0_
              have BK579 := n1_
              have BK580 := n2_
              have BK583 := n3_
              have HB := n4_
              clear n0_ n1_ n2_ n3_ n4_
              refine start_ (n := 7) (S := fun w' => w'.cell? ⟨gb579, 0, none⟩ = some (.int .i64 a0_0) ∧ w'.cell? ⟨gb579, 1, none⟩ = some (.slice A0_1 l0_1.length c0_1) ∧ w'.cell? ⟨gb583, 0, none⟩ = some (.string x584000_4) ∧ w'.cell? ⟨gb583, 1, none⟩ = some (.string x584001_4) ∧ w'.cell? ⟨gb583, 2, none⟩ = some (.string x584002_4)) (ds := []) #[false, false, false, false, false, false, false] (by kernel_rfl) rfl rfl ⟨(blk_cell BK579.out 0).trans rfl, (blk_cell BK579.out 1).trans rfl, (blk_cell BK583.out 0).trans rfl, (blk_cell BK583.out 1).trans rfl, (blk_cell BK583.out 2).trans rfl⟩ (fun hHeld => ?_)
              generalize wc.drew = w67 at HO_580001 BK579 BK580 BK583 HB hHeld ⊢
              refine pure_ (i := 2) (N := some 29) (v := ?_) (a' := ?_) #[false, false, true, false, false, false, false] rfl rfl (by kernel_rfl) (fun _ _ _ h => h) (Or.inl ⟨by rfl, ?_⟩) ?_ ?_
              rotate_left
              · intro w'
                go_simp
                with_reducible rfl
              rotate_left
              · simp only [Act.put, List.setIfInBounds_toArray, List.set_cons_zero, List.set_cons_succ, i64_w, i32_w]
                rfl
              refine take_ (i := 0) (N := some 27) (v := ?_) (a' := ?_) #[true, false, true, false, false, false, false] rfl rfl (by kernel_rfl) (fun _ _ _ h => h) (Or.inl ⟨by rfl, ?_⟩) hHeld ?_ ?_
              rotate_left
              · rintro w' ⟨s0, s1, s2, s3, s4⟩
                go_simp
                with_reducible rfl
              rotate_left
              · simp only [Act.put, List.setIfInBounds_toArray, List.set_cons_zero, List.set_cons_succ, i64_w, i32_w]
                rfl
              refine take_ (i := 3) (N := some 30) (v := ?_) (a' := ?_) #[true, false, true, true, false, false, false] rfl rfl (by kernel_rfl) (fun _ _ _ h => h) (Or.inl ⟨by rfl, ?_⟩) hHeld ?_ ?_
              rotate_left
              · rintro w' ⟨s0, s1, s2, s3, s4⟩
                go_simp
                with_reducible rfl
              rotate_left
              · simp only [Act.put, List.setIfInBounds_toArray, List.set_cons_zero, List.set_cons_succ, i64_w, i32_w]
                rfl
              refine pure_ (i := 4) (N := some 31) (v := ?_) (a' := ?_) #[true, false, true, true, true, false, false] rfl rfl (by kernel_rfl) (fun _ _ _ h => h) (Or.inl ⟨by rfl, ?_⟩) ?_ ?_
              rotate_left
              · intro w'
                go_simp
                with_reducible rfl
              rotate_left
              · simp only [Act.put, List.setIfInBounds_toArray, List.set_cons_zero, List.set_cons_succ, i64_w, i32_w]
                rfl
              refine one_ (i := 1) (N := some 28) #[true, true, true, true, true, false, false] rfl rfl (by kernel_rfl) (by decide) (fun K hK => ?_)
              refine goes_ Try.func30 (by kernel_rfl) rfl #[.agg #[.int .i64 a0_0, .slice A0_1 l0_1.length c0_1]] (by rfl) rfl rfl (by (try simp only [List.map_toArray, List.map_cons, List.map_nil]); first | done | rfl | (simp only [List.length_drop, List.length_take]; rfl)) ?_
              with_reducible refine (disk_Used.calls kj4 a0_0 _ _ l0_1 t585 _ ?side1 ?side2 A23.out).mono ?_
              (case side1 => repeat (first | exact (Kd.V_reads' HO_580001.out).2.2 | (with_reducible refine Kd.C_alloc ?_ _) | (with_reducible refine Kd.C_drewN ?_ _) | (with_reducible refine Kd.C_drew ?_)))
              (case side2 => exact (Kd.V_reads' HO_580001.out).2.1)
              rintro e w68 ⟨rfl, hb⟩
              refine ⟨_, rfl, ?_⟩
              have n0_ := Aside0.mk (Kd.V_below (by (with_reducible repeat (first | apply Kd.V_alloc | apply Kd.V_drewN | apply Kd.V_drew)); exact HO_580001.out) hb)
              have n1_ := Aside0.mk (blk_below (g := gb579) (o := .cells #[.int .i64 a0_0, .slice A0_1 l0_1.length c0_1] 46 (0, 0)) (by (with_reducible repeat (first | refine blk_drewN ?_ _ | refine blk_drew ?_ | refine blk_alloc ?_ _)); exact BK579.out) hb)
              have n2_ := Aside0.mk (blk_below (g := gb580) (o := .cells #[.int .i64 0, .slice none 0 0] 46 (0, 0)) (by (with_reducible repeat (first | refine blk_drewN ?_ _ | refine blk_drew ?_ | refine blk_alloc ?_ _)); exact BK580.out) hb)
              have n3_ := Aside0.mk (blk_below (g := gb583) (o := .cells #[.string x584000_4, .string x584001_4, .string x584002_4] 55 (0, 0)) (by (with_reducible repeat (first | refine blk_drewN ?_ _ | refine blk_drew ?_ | refine blk_alloc ?_ _)); exact BK583.out) hb)
              have n4_ := Aside0.mk (below_step (by repeat (first | (with_reducible first | exact HB.out | apply below_alloc | apply pw_below_drewN | apply below_drew1 | refine below_set ?_ GE579.out | refine below_set ?_ GE580.out | refine below_set ?_ GE583.out) | exact HB.out)) hb)
              clear HO_580001
              clear BK579
              clear BK580
              clear BK583
              clear HB
              have HO_580001 := n0_
              have BK579 := n1_
              have BK580 := n2_
              have BK583 := n3_
              have HB := n4_
              clear n0_ n1_ n2_ n3_ n4_
              (try clear hb)
              (try clear hb2)
              (try clear hk)
              (try clear hi)
              refine hK.out _ _ ⟨(blk_cell BK579.out 0).trans rfl, (blk_cell BK579.out 1).trans rfl, (blk_cell BK583.out 0).trans rfl, (blk_cell BK583.out 1).trans rfl, (blk_cell BK583.out 2).trans rfl⟩ (fun hHeld => ?_)
              clear hK K
              refine norm_ (a' := ?_) ?_ ?_
              rotate_left
              · show Act.put _ (some 28) _ = _
                simp only [Act.put, List.setIfInBounds_toArray, List.set_cons_zero, List.set_cons_succ, i64_w, i32_w]
                rfl
              refine pure_ (i := 5) (N := some 32) (v := ?_) (a' := ?_) #[true, true, true, true, true, true, false] rfl rfl (by kernel_rfl) (fun _ _ _ h => h) (Or.inl ⟨by rfl, ?_⟩) ?_ ?_
              rotate_left
              · intro w'
                go_simp
                with_reducible rfl
              rotate_left
              · simp only [Act.put, List.setIfInBounds_toArray, List.set_cons_zero, List.set_cons_succ, i64_w, i32_w]
                rfl
              refine pure_ (i := 6) (N := some 12) (v := ?_) (a' := ?_) #[true, true, true, true, true, true, true] rfl rfl (by kernel_rfl) (fun _ _ _ h => h) (Or.inl ⟨by rfl, ?_⟩) ?_ ?_
              rotate_left
              · intro w'
                go_simp
                with_reducible rfl
              rotate_left
              · simp only [Act.put, List.setIfInBounds_toArray, List.set_cons_zero, List.set_cons_succ, i64_w, i32_w]
                rfl
              refine done_ (by kernel_rfl) ?_
              try go_wp2_with (first | ((with_reducible refine gate_callee (f := 49) rfl ?_); refine goesL_ (some 35) rfl rfl Try.func49 (by kernel_rfl) rfl #[.string a1] rfl (by (try simp only [List.map_toArray, List.map_cons, List.map_nil]); first | done | rfl | (simp only [List.length_drop, List.length_take]; rfl)) ?_; (with_reducible refine (disk_name.calls a1 true _ A24.out).mono ?_); rintro e w' ⟨rfl, ⟨nd, rfl⟩⟩; refine ⟨_, rfl, ?_⟩; (try (rw [drewN_self w68]; generalize hq_ : World.drewN w68 _ = w68; have n0_ : Aside0 (Kd.V k55 55 w68 w.heap.size (fun k_ => (P0_1_ k_ ∨ w.heap.size ≤ k_) ∧ k_ ≠ gb579 ∧ k_ ≠ gb580 ∧ k_ ≠ gb583) (.slice A0_1 l0_1.length c0_1) l0_1) := ⟨by rw [← hq_]; exact (by (with_reducible repeat (first | apply Kd.V_alloc | apply Kd.V_drewN | apply Kd.V_drew)); exact HO_580001.out)⟩; have n1_ : Aside0 (w68.heap[gb579]? = some (.cells #[.int .i64 a0_0, .slice A0_1 l0_1.length c0_1] 46 (0, 0))) := ⟨by rw [← hq_]; exact (by (with_reducible repeat (first | refine blk_drewN ?_ _ | refine blk_drew ?_ | refine blk_alloc ?_ _)); exact BK579.out)⟩; have n2_ : Aside0 (w68.heap[gb580]? = some (.cells #[.int .i64 0, .slice none 0 0] 46 (0, 0))) := ⟨by rw [← hq_]; exact (by (with_reducible repeat (first | refine blk_drewN ?_ _ | refine blk_drew ?_ | refine blk_alloc ?_ _)); exact BK580.out)⟩; have n3_ : Aside0 (w68.heap[gb583]? = some (.cells #[.string x584000_4, .string x584001_4, .string x584002_4] 55 (0, 0))) := ⟨by rw [← hq_]; exact (by (with_reducible repeat (first | refine blk_drewN ?_ _ | refine blk_drew ?_ | refine blk_alloc ?_ _)); exact BK583.out)⟩; have n4_ : Aside0 (Below w.heap.size w w68) := ⟨by rw [← hq_]; exact (by repeat (first | (with_reducible first | exact HB.out | apply below_alloc | apply pw_below_drewN | apply below_drew1 | refine below_set ?_ GE579.out | refine below_set ?_ GE580.out | refine below_set ?_ GE583.out) | exact HB.out))⟩; clear HO_580001 BK579 BK580 BK583 HB hq_; have HO_580001 := n0_; have BK579 := n1_; have BK580 := n2_; have BK583 := n3_; have HB := n4_; clear n0_ n1_ n2_ n3_ n4_)); have hnb69 := NB579_580.out; have hnc69 := NB580_579.out; have hnb70 := NB579_583.out; have hnc70 := NB583_579.out; have hcz71_0 : w68.cell? ⟨gb579, 0, none⟩ = some (.int .i64 a0_0) := (blk_cell BK579.out 0).trans rfl; have hcz71_1 : w68.cell? ⟨gb579, 1, none⟩ = some (.slice A0_1 l0_1.length c0_1) := (blk_cell BK579.out 1).trans rfl; have hfz71_0 := blk_frozen BK579.out 0; have hfz71_1 := blk_frozen BK579.out 1; have hnb72 := NB583_580.out; have hnc72 := NB580_583.out; have hcz73_0 : w68.cell? ⟨gb583, 0, none⟩ = some (.string x584000_4) := (blk_cell BK583.out 0).trans rfl; have hcz73_1 : w68.cell? ⟨gb583, 1, none⟩ = some (.string x584001_4) := (blk_cell BK583.out 1).trans rfl; have hcz73_2 : w68.cell? ⟨gb583, 2, none⟩ = some (.string x584002_4) := (blk_cell BK583.out 2).trans rfl; have hfz73_0 := blk_frozen BK583.out 0; have hfz73_1 := blk_frozen BK583.out 1; have hfz73_2 := blk_frozen BK583.out 2) | ((with_reducible refine gate_dst (N := 64) rfl ?_); (try (refine gate_guard (by rfl) ?_; dsimp only)); refine Kd.R_lit k55 _ 55 ?hg (N := 64) ?hd (xs := ([(⟨x584000_4, a2, x584002_4⟩ : S55)] : List (S55))) (inner := [.string x584000_4, .string a2, .string x584002_4]) (ok := fun _ => True) (okp := fun _ => True) ?hr ?hp (fun _ hk => hk) trivial (Below.refl _ _) (Nat.le_refl _) (by simp) ?_; (case hd => rfl); (case hg => rfl); (case hr => first | (go_simp; done) | (go_simp; rfl)); (case hp => exact (Reps.c3 (show Kd.M k55 _ _ _ (⟨x584000_4, a2, x584002_4⟩ : S55) [.string x584000_4, .string a2, .string x584002_4] from (k55_mkM _ _ _ (⟨x584000_4, a2, x584002_4⟩ : S55) )) (Reps.none _ _))); intro v594 w74 ho75 hb hg_ hnew_; clear hg_ hnew_; (first | rw [← Ny593.out] at ho75 | (simp only [Int.reduceToNat] at ho75; rw [← Ny593.out] at ho75)); have n0_ := Aside0.mk (Kd.V_elder' (by (with_reducible repeat (first | apply Kd.V_alloc | apply Kd.V_drewN | apply Kd.V_drew)); exact (Kd.V_mono (Kd.V_far (p := ⟨gb583, 1, none⟩) (Kd.V_mono HO_580001.out (fun k_ hk => (⟨hk, hk.2.2.2⟩ : _ ∧ k_ ≠ gb583))) (fun _ hk => hk.2) (.string a2)) (fun _ h_ => h_.1))) (Kd.R_base ho75) hb); have n1_ := Aside0.mk (Kd.R_lower (Kd.R_newB (Kd.R_newM (M := fun k_ => (w.heap.size ≤ k_)) ho75 (below_size (by repeat (first | (with_reducible first | exact HB.out | apply below_alloc | apply pw_below_drewN | apply below_drew1 | refine below_set ?_ GE579.out | refine below_set ?_ GE580.out | refine below_set ?_ GE583.out) | exact HB.out))) (fun k_ h_ => h_)) (g := gb583) (o := .cells #[.string x584000_4, .string a2, .string x584002_4] 55 (0, 0)) (by (with_reducible repeat (first | refine blk_drewN ?_ _ | refine blk_drew ?_ | refine blk_alloc ?_ _)); refine blk_put (cs := #[.string x584000_4, .string x584001_4, .string x584002_4]) ?_ 1 _ rfl; (with_reducible repeat (first | refine blk_drewN ?_ _ | refine blk_drew ?_ | refine blk_alloc ?_ _)); exact BK583.out)) (below_size (by repeat (first | (with_reducible first | exact HB.out | apply below_alloc | apply pw_below_drewN | apply below_drew1 | refine below_set ?_ GE579.out | refine below_set ?_ GE580.out | refine below_set ?_ GE583.out) | exact HB.out)))); have n2_ := Aside0.mk (blk_below (g := gb579) (o := .cells #[.int .i64 a0_0, .slice A0_1 l0_1.length c0_1] 46 (0, 0)) (by (with_reducible repeat (first | refine blk_drewN ?_ _ | refine blk_drew ?_ | refine blk_alloc ?_ _)); refine blk_far ?_ NB579_583.out _; (with_reducible repeat (first | refine blk_drewN ?_ _ | refine blk_drew ?_ | refine blk_alloc ?_ _)); exact BK579.out) hb); have n3_ := Aside0.mk (blk_below (g := gb580) (o := .cells #[.int .i64 0, .slice none 0 0] 46 (0, 0)) (by (with_reducible repeat (first | refine blk_drewN ?_ _ | refine blk_drew ?_ | refine blk_alloc ?_ _)); refine blk_far ?_ NB580_583.out _; (with_reducible repeat (first | refine blk_drewN ?_ _ | refine blk_drew ?_ | refine blk_alloc ?_ _)); exact BK580.out) hb); have n4_ := Aside0.mk (blk_below (g := gb583) (o := .cells #[.string x584000_4, .string a2, .string x584002_4] 55 (0, 0)) (by (with_reducible repeat (first | refine blk_drewN ?_ _ | refine blk_drew ?_ | refine blk_alloc ?_ _)); refine blk_put (cs := #[.string x584000_4, .string x584001_4, .string x584002_4]) ?_ 1 _ rfl; (with_reducible repeat (first | refine blk_drewN ?_ _ | refine blk_drew ?_ | refine blk_alloc ?_ _)); exact BK583.out) hb); have n5_ := Aside0.mk (below_step (by repeat (first | (with_reducible first | exact HB.out | apply below_alloc | apply pw_below_drewN | apply below_drew1 | refine below_set ?_ GE579.out | refine below_set ?_ GE580.out | refine below_set ?_ GE583.out) | exact HB.out)) hb); clear HO_580001; clear BK579; clear BK580; clear BK583; clear HB; have HO_580001 := n0_; have HO595 := n1_; have BK579 := n2_; have BK580 := n3_; have BK583 := n4_; have HB := n5_; clear n0_ n1_ n2_ n3_ n4_ n5_; clear hb ho75; obtain ⟨Ao76, co76, eo76⟩ := Kd.R_slice HO595.out; subst eo76) | ((with_reducible refine gate_callee (f := 50) rfl ?_); refine goesL_ (some 65) rfl rfl Try.func50 (by kernel_rfl) rfl #[.slice A0_1 l0_1.length c0_1, .int .i64 t581, .int .i64 x11_4, .slice Ao76 y593.length co76] rfl (by (try simp only [List.map_toArray, List.map_cons, List.map_nil]); first | done | rfl | (simp only [List.length_drop, List.length_take]; rfl)) ?_; (with_reducible refine (api_File_50.calls (fun k_ => (((P0_1_ k_ ∨ w.heap.size ≤ k_) ∧ (k_ ≠ gb579 ∧ (k_ ≠ gb580 ∧ k_ ≠ gb583))) ∧ some k_ ≠ (.slice Ao76 y593.length co76 : Value).ownBlock)) _ _ l0_1 t581 x11_4 (fun k_ => some k_ = (.slice Ao76 y593.length co76 : Value).ownBlock) _ _ y593 t596 _ ?side1 ?side2 A66.out).mono ?_); (case side1 => exact HO_580001.out); (case side2 => exact Kd.R_V (Kd.R_tight rfl (Kd.R_types (Kd.R_types (HO595.out) BK579.out (by decide)) BK580.out (by decide)))); rintro e w77 ⟨v597, rfl, ho0, hb⟩; refine ⟨_, rfl, ?_⟩; have n0_ := Aside0.mk (Kd.V_below (by (with_reducible repeat (first | apply Kd.V_alloc | apply Kd.V_drewN | apply Kd.V_drew)); exact HO_580001.out) hb); have n1_ := Aside0.mk (Kd.R_below (by (with_reducible repeat (first | apply Kd.R_alloc | apply Kd.R_drewN | apply Kd.R_drew)); exact HO595.out) hb); have n2_ := Aside0.mk (Kd.V_lower (Kd.V_mono (ok' := fun k_ => (P0_1_ k_ ∨ w.heap.size ≤ k_) ∧ k_ ≠ gb579 ∧ k_ ≠ gb580 ∧ k_ ≠ gb583) ho0 (fun k_ hk_ => ⟨Or.elim hk_ (fun hs_ => Or.elim hs_ (fun hs_ => hs_.1.1) (fun hs_ => (.inr (((Kd.R_types (Kd.R_types (HO595.out) BK579.out (by decide)) BK580.out (by decide)).1 k_ hs_.symm).1.1.1.1)))) (fun hn_ => (.inr (Nat.le_trans (below_size (by repeat (first | (with_reducible first | exact HB.out | apply below_alloc | apply pw_below_drewN | apply below_drew1 | refine below_set ?_ GE579.out | refine below_set ?_ GE580.out | refine below_set ?_ GE583.out) | exact HB.out))) hn_))), Or.elim hk_ (fun hs_ => Or.elim hs_ (fun hs_ => hs_.1.2.1) (fun hs_ => ((Kd.R_types (Kd.R_types (HO595.out) BK579.out (by decide)) BK580.out (by decide)).1 k_ hs_.symm).1.2)) (fun hn_ => (Kd.freshB (g := gb579) (o := .cells #[.int .i64 a0_0, .slice A0_1 l0_1.length c0_1] 46 (0, 0)) (by (with_reducible repeat (first | refine blk_drewN ?_ _ | refine blk_drew ?_ | refine blk_alloc ?_ _)); exact BK579.out) k_ hn_)), Or.elim hk_ (fun hs_ => Or.elim hs_ (fun hs_ => hs_.1.2.2.1) (fun hs_ => ((Kd.R_types (Kd.R_types (HO595.out) BK579.out (by decide)) BK580.out (by decide)).1 k_ hs_.symm).2)) (fun hn_ => (Kd.freshB (g := gb580) (o := .cells #[.int .i64 0, .slice none 0 0] 46 (0, 0)) (by (with_reducible repeat (first | refine blk_drewN ?_ _ | refine blk_drew ?_ | refine blk_alloc ?_ _)); exact BK580.out) k_ hn_)), Or.elim hk_ (fun hs_ => Or.elim hs_ (fun hs_ => hs_.1.2.2.2) (fun hs_ => ((Kd.R_types (Kd.R_types (HO595.out) BK579.out (by decide)) BK580.out (by decide)).1 k_ hs_.symm).1.1.2)) (fun hn_ => (Kd.freshB (g := gb583) (o := .cells #[.string x584000_4, .string a2, .string x584002_4] 55 (0, 0)) (by (with_reducible repeat (first | refine blk_drewN ?_ _ | refine blk_drew ?_ | refine blk_alloc ?_ _)); exact BK583.out) k_ hn_))⟩)) (below_size (by repeat (first | (with_reducible first | exact HB.out | apply below_alloc | apply pw_below_drewN | apply below_drew1 | refine below_set ?_ GE579.out | refine below_set ?_ GE580.out | refine below_set ?_ GE583.out) | exact HB.out)))); have n3_ := Aside0.mk (blk_below (g := gb579) (o := .cells #[.int .i64 a0_0, .slice A0_1 l0_1.length c0_1] 46 (0, 0)) (by (with_reducible repeat (first | refine blk_drewN ?_ _ | refine blk_drew ?_ | refine blk_alloc ?_ _)); exact BK579.out) hb); have n4_ := Aside0.mk (blk_below (g := gb580) (o := .cells #[.int .i64 0, .slice none 0 0] 46 (0, 0)) (by (with_reducible repeat (first | refine blk_drewN ?_ _ | refine blk_drew ?_ | refine blk_alloc ?_ _)); exact BK580.out) hb); have n5_ := Aside0.mk (blk_below (g := gb583) (o := .cells #[.string x584000_4, .string a2, .string x584002_4] 55 (0, 0)) (by (with_reducible repeat (first | refine blk_drewN ?_ _ | refine blk_drew ?_ | refine blk_alloc ?_ _)); exact BK583.out) hb); have n6_ := Aside0.mk (below_step (by repeat (first | (with_reducible first | exact HB.out | apply below_alloc | apply pw_below_drewN | apply below_drew1 | refine below_set ?_ GE579.out | refine below_set ?_ GE580.out | refine below_set ?_ GE583.out) | exact HB.out)) hb); clear HO_580001; clear HO595; clear BK579; clear BK580; clear BK583; clear HB; have HO_580001 := n0_; have HO595 := n1_; have HO598 := n2_; have BK579 := n3_; have BK580 := n4_; have BK583 := n5_; have HB := n6_; clear n0_ n1_ n2_ n3_ n4_ n5_ n6_; (try clear hb); (try clear hb2); (try clear hk); (try clear hi); (try clear ho0); obtain ⟨Ao78, co78, eo78⟩ := Kd.V_slice HO598.out; subst eo78; have hcz79_0 : w77.cell? ⟨gb579, 0, none⟩ = some (.int .i64 a0_0) := (blk_cell BK579.out 0).trans rfl; have hcz79_1 : w77.cell? ⟨gb579, 1, none⟩ = some (.slice A0_1 l0_1.length c0_1) := (blk_cell BK579.out 1).trans rfl; have hfz79_0 := blk_frozen BK579.out 0; have hfz79_1 := blk_frozen BK579.out 1; have hcz80_0 : w77.cell? ⟨gb580, 0, none⟩ = some (.int .i64 0) := (blk_cell BK580.out 0).trans rfl; have hcz80_1 : w77.cell? ⟨gb580, 1, none⟩ = some (.slice none 0 0) := (blk_cell BK580.out 1).trans rfl; have hfz80_0 := blk_frozen BK580.out 0; have hfz80_1 := blk_frozen BK580.out 1))
              refine bodyPost_ret (results_ct rfl _ _ gb580 46 #[.int .i64 a0_0, .slice Ao78 t596.length co78] (0, 0) _ rfl (by (with_reducible repeat (first | refine blk_drewN ?_ _ | refine blk_drew ?_ | refine blk_alloc ?_ _)); refine blk_put (cs := #[.int .i64 a0_0, .slice none 0 0]) ?_ 1 _ rfl; (with_reducible repeat (first | refine blk_drewN ?_ _ | refine blk_drew ?_ | refine blk_alloc ?_ _)); refine blk_put (cs := #[.int .i64 0, .slice none 0 0]) ?_ 0 _ rfl; (with_reducible repeat (first | refine blk_drewN ?_ _ | refine blk_drew ?_ | refine blk_alloc ?_ _)); refine blk_far ?_ NB580_579.out _; (with_reducible repeat (first | refine blk_drewN ?_ _ | refine blk_drew ?_ | refine blk_alloc ?_ _)); exact BK580.out) Try.underlying46 rfl (by kernel_rfl)) rfl ?_
              exact ⟨_, by first | rfl | (simp [errW_none, errW_some] <;> rfl) | (simp [*, errW_none, errW_some] <;> rfl), by (with_reducible repeat (first | apply Kd.V_alloc | apply Kd.V_drewN | apply Kd.V_drew)); exact Kd.V_mono (Kd.V_far (p := ⟨gb580, 1, none⟩) (Kd.V_far (p := ⟨gb580, 0, none⟩) (Kd.V_far (p := ⟨gb579, 1, none⟩) (Kd.V_mono (Kd.V_mono HO598.out (fun k_ hk => (⟨hk, hk.2.1⟩ : _ ∧ k_ ≠ gb579))) (fun k_ hk => (⟨hk, hk.1.2.2.1⟩ : _ ∧ k_ ≠ gb580))) (fun _ hk => hk.1.2) (.slice Ao78 t596.length co78)) (fun _ hk => hk.2) (.int .i64 a0_0)) (fun _ hk => hk.2) (.slice Ao78 t596.length co78)) (fun _ hk => hk.1.1.1), by repeat (first | (with_reducible first | exact HB.out | apply below_alloc | apply pw_below_drewN | apply below_drew1 | refine below_set ?_ GE579.out | refine below_set ?_ GE580.out | refine below_set ?_ GE583.out) | exact HB.out)⟩
      · replace c25 := Bool.eq_false_iff.mpr c25
        subst c25
        have H1 : (some (a0_0, l0_1, 1)) = some (r1, r2, r3) := by rw [if_neg (show ¬ (false = true) by decide)] at H; exact H
        clear H
        have H := H1
        clear H1
        simp only [Option.some.injEq, Prod.mk.injEq] at H
        obtain ⟨rfl, rfl, rfl⟩ := H
        try go_wp2
        have n0_ := Aside0.mk (Kd.V_drew HO_580001.out)
        have n1_ := Aside0.mk (blk_drew BK579.out)
        have n2_ := Aside0.mk (blk_drew BK580.out)
        have n3_ := Aside0.mk (blk_drew BK583.out)
        have n4_ := Aside0.mk (below_drew1 HB.out)
        clear HO_580001
        clear BK579
        clear BK580
        clear BK583
        clear HB
        have HO_580001 := n0_
        have BK579 := n1_
        have BK580 := n2_
        have BK583 := n3_
        have HB := n4_
        clear n0_ n1_ n2_ n3_ n4_
        refine start_ (n := 7) (S := fun w' => w'.cell? ⟨gb579, 0, none⟩ = some (.int .i64 a0_0) ∧ w'.cell? ⟨gb579, 1, none⟩ = some (.slice A0_1 l0_1.length c0_1) ∧ w'.cell? ⟨gb583, 0, none⟩ = some (.string x584000_4) ∧ w'.cell? ⟨gb583, 1, none⟩ = some (.string x584001_4) ∧ w'.cell? ⟨gb583, 2, none⟩ = some (.string x584002_4)) (ds := []) #[false, false, false, false, false, false, false] (by kernel_rfl) rfl rfl ⟨(blk_cell BK579.out 0).trans rfl, (blk_cell BK579.out 1).trans rfl, (blk_cell BK583.out 0).trans rfl, (blk_cell BK583.out 1).trans rfl, (blk_cell BK583.out 2).trans rfl⟩ (fun hHeld => ?_)
        generalize wc.drew = w81 at HO_580001 BK579 BK580 BK583 HB hHeld ⊢
        refine pure_ (i := 2) (N := some 29) (v := ?_) (a' := ?_) #[false, false, true, false, false, false, false] rfl rfl (by kernel_rfl) (fun _ _ _ h => h) (Or.inl ⟨by rfl, ?_⟩) ?_ ?_
        rotate_left
        · intro w'
          go_simp
          with_reducible rfl
        rotate_left
        · simp only [Act.put, List.setIfInBounds_toArray, List.set_cons_zero, List.set_cons_succ, i64_w, i32_w]
          rfl
        refine take_ (i := 0) (N := some 27) (v := ?_) (a' := ?_) #[true, false, true, false, false, false, false] rfl rfl (by kernel_rfl) (fun _ _ _ h => h) (Or.inl ⟨by rfl, ?_⟩) hHeld ?_ ?_
        rotate_left
        · rintro w' ⟨s0, s1, s2, s3, s4⟩
          go_simp
          with_reducible rfl
        rotate_left
        · simp only [Act.put, List.setIfInBounds_toArray, List.set_cons_zero, List.set_cons_succ, i64_w, i32_w]
          rfl
        refine take_ (i := 3) (N := some 30) (v := ?_) (a' := ?_) #[true, false, true, true, false, false, false] rfl rfl (by kernel_rfl) (fun _ _ _ h => h) (Or.inl ⟨by rfl, ?_⟩) hHeld ?_ ?_
        rotate_left
        · rintro w' ⟨s0, s1, s2, s3, s4⟩
          go_simp
          with_reducible rfl
        rotate_left
        · simp only [Act.put, List.setIfInBounds_toArray, List.set_cons_zero, List.set_cons_succ, i64_w, i32_w]
          rfl
        refine pure_ (i := 4) (N := some 31) (v := ?_) (a' := ?_) #[true, false, true, true, true, false, false] rfl rfl (by kernel_rfl) (fun _ _ _ h => h) (Or.inl ⟨by rfl, ?_⟩) ?_ ?_
        rotate_left
        · intro w'
          go_simp
          with_reducible rfl
        rotate_left
        · simp only [Act.put, List.setIfInBounds_toArray, List.set_cons_zero, List.set_cons_succ, i64_w, i32_w]
          rfl
        refine one_ (i := 1) (N := some 28) #[true, true, true, true, true, false, false] rfl rfl (by kernel_rfl) (by decide) (fun K hK => ?_)
        refine goes_ Try.func30 (by kernel_rfl) rfl #[.agg #[.int .i64 a0_0, .slice A0_1 l0_1.length c0_1]] (by rfl) rfl rfl (by (try simp only [List.map_toArray, List.map_cons, List.map_nil]); first | done | rfl | (simp only [List.length_drop, List.length_take]; rfl)) ?_
        with_reducible refine (disk_Used.calls kj4 a0_0 _ _ l0_1 t585 _ ?side1 ?side2 A23.out).mono ?_
        (case side1 => repeat (first | exact (Kd.V_reads' HO_580001.out).2.2 | (with_reducible refine Kd.C_alloc ?_ _) | (with_reducible refine Kd.C_drewN ?_ _) | (with_reducible refine Kd.C_drew ?_)))
        (case side2 => exact (Kd.V_reads' HO_580001.out).2.1)
        rintro e w82 ⟨rfl, hb⟩
        refine ⟨_, rfl, ?_⟩
        have n0_ := Aside0.mk (Kd.V_below (by (with_reducible repeat (first | apply Kd.V_alloc | apply Kd.V_drewN | apply Kd.V_drew)); exact HO_580001.out) hb)
        have n1_ := Aside0.mk (blk_below (g := gb579) (o := .cells #[.int .i64 a0_0, .slice A0_1 l0_1.length c0_1] 46 (0, 0)) (by (with_reducible repeat (first | refine blk_drewN ?_ _ | refine blk_drew ?_ | refine blk_alloc ?_ _)); exact BK579.out) hb)
        have n2_ := Aside0.mk (blk_below (g := gb580) (o := .cells #[.int .i64 0, .slice none 0 0] 46 (0, 0)) (by (with_reducible repeat (first | refine blk_drewN ?_ _ | refine blk_drew ?_ | refine blk_alloc ?_ _)); exact BK580.out) hb)
        have n3_ := Aside0.mk (blk_below (g := gb583) (o := .cells #[.string x584000_4, .string x584001_4, .string x584002_4] 55 (0, 0)) (by (with_reducible repeat (first | refine blk_drewN ?_ _ | refine blk_drew ?_ | refine blk_alloc ?_ _)); exact BK583.out) hb)
        have n4_ := Aside0.mk (below_step (by repeat (first | (with_reducible first | exact HB.out | apply below_alloc | apply pw_below_drewN | apply below_drew1 | refine below_set ?_ GE579.out | refine below_set ?_ GE580.out | refine below_set ?_ GE583.out) | exact HB.out)) hb)
        clear HO_580001
        clear BK579
        clear BK580
        clear BK583
        clear HB
        have HO_580001 := n0_
        have BK579 := n1_
        have BK580 := n2_
        have BK583 := n3_
        have HB := n4_
        clear n0_ n1_ n2_ n3_ n4_
        (try clear hb)
        (try clear hb2)
        (try clear hk)
        (try clear hi)
        refine hK.out _ _ ⟨(blk_cell BK579.out 0).trans rfl, (blk_cell BK579.out 1).trans rfl, (blk_cell BK583.out 0).trans rfl, (blk_cell BK583.out 1).trans rfl, (blk_cell BK583.out 2).trans rfl⟩ (fun hHeld => ?_)
        clear hK K
        refine norm_ (a' := ?_) ?_ ?_
        rotate_left
        · show Act.put _ (some 28) _ = _
          simp only [Act.put, List.setIfInBounds_toArray, List.set_cons_zero, List.set_cons_succ, i64_w, i32_w]
          rfl
        refine pure_ (i := 5) (N := some 32) (v := ?_) (a' := ?_) #[true, true, true, true, true, true, false] rfl rfl (by kernel_rfl) (fun _ _ _ h => h) (Or.inl ⟨by rfl, ?_⟩) ?_ ?_
        rotate_left
        · intro w'
          go_simp
          with_reducible rfl
        rotate_left
        · simp only [Act.put, List.setIfInBounds_toArray, List.set_cons_zero, List.set_cons_succ, i64_w, i32_w]
          rfl
        refine pure_ (i := 6) (N := some 12) (v := ?_) (a' := ?_) #[true, true, true, true, true, true, true] rfl rfl (by kernel_rfl) (fun _ _ _ h => h) (Or.inl ⟨by rfl, ?_⟩) ?_ ?_
        rotate_left
        · intro w'
          go_simp
          with_reducible rfl
        rotate_left
        · simp only [Act.put, List.setIfInBounds_toArray, List.set_cons_zero, List.set_cons_succ, i64_w, i32_w]
          rfl
        refine done_ (by kernel_rfl) ?_
        try go_wp2_with (first | ((with_reducible refine gate_callee (f := 49) rfl ?_); refine goesL_ (some 35) rfl rfl Try.func49 (by kernel_rfl) rfl #[.string a1] rfl (by (try simp only [List.map_toArray, List.map_cons, List.map_nil]); first | done | rfl | (simp only [List.length_drop, List.length_take]; rfl)) ?_; (with_reducible refine (disk_name.calls a1 false _ A24.out).mono ?_); rintro e w' ⟨rfl, ⟨nd, rfl⟩⟩; refine ⟨_, rfl, ?_⟩; (try (rw [drewN_self w82]; generalize hq_ : World.drewN w82 _ = w82; have n0_ : Aside0 (Kd.V k55 55 w82 w.heap.size (fun k_ => (P0_1_ k_ ∨ w.heap.size ≤ k_) ∧ k_ ≠ gb579 ∧ k_ ≠ gb580 ∧ k_ ≠ gb583) (.slice A0_1 l0_1.length c0_1) l0_1) := ⟨by rw [← hq_]; exact (by (with_reducible repeat (first | apply Kd.V_alloc | apply Kd.V_drewN | apply Kd.V_drew)); exact HO_580001.out)⟩; have n1_ : Aside0 (w82.heap[gb579]? = some (.cells #[.int .i64 a0_0, .slice A0_1 l0_1.length c0_1] 46 (0, 0))) := ⟨by rw [← hq_]; exact (by (with_reducible repeat (first | refine blk_drewN ?_ _ | refine blk_drew ?_ | refine blk_alloc ?_ _)); exact BK579.out)⟩; have n2_ : Aside0 (w82.heap[gb580]? = some (.cells #[.int .i64 0, .slice none 0 0] 46 (0, 0))) := ⟨by rw [← hq_]; exact (by (with_reducible repeat (first | refine blk_drewN ?_ _ | refine blk_drew ?_ | refine blk_alloc ?_ _)); exact BK580.out)⟩; have n3_ : Aside0 (w82.heap[gb583]? = some (.cells #[.string x584000_4, .string x584001_4, .string x584002_4] 55 (0, 0))) := ⟨by rw [← hq_]; exact (by (with_reducible repeat (first | refine blk_drewN ?_ _ | refine blk_drew ?_ | refine blk_alloc ?_ _)); exact BK583.out)⟩; have n4_ : Aside0 (Below w.heap.size w w82) := ⟨by rw [← hq_]; exact (by repeat (first | (with_reducible first | exact HB.out | apply below_alloc | apply pw_below_drewN | apply below_drew1 | refine below_set ?_ GE579.out | refine below_set ?_ GE580.out | refine below_set ?_ GE583.out) | exact HB.out))⟩; clear HO_580001 BK579 BK580 BK583 HB hq_; have HO_580001 := n0_; have BK579 := n1_; have BK580 := n2_; have BK583 := n3_; have HB := n4_; clear n0_ n1_ n2_ n3_ n4_)); have hnb83 := NB579_580.out; have hnc83 := NB580_579.out; have hnb84 := NB579_583.out; have hnc84 := NB583_579.out; have hcz85_0 : w82.cell? ⟨gb579, 0, none⟩ = some (.int .i64 a0_0) := (blk_cell BK579.out 0).trans rfl; have hcz85_1 : w82.cell? ⟨gb579, 1, none⟩ = some (.slice A0_1 l0_1.length c0_1) := (blk_cell BK579.out 1).trans rfl; have hfz85_0 := blk_frozen BK579.out 0; have hfz85_1 := blk_frozen BK579.out 1; have hnb86 := NB580_583.out; have hnc86 := NB583_580.out; have hcz87_0 : w82.cell? ⟨gb580, 0, none⟩ = some (.int .i64 0) := (blk_cell BK580.out 0).trans rfl; have hcz87_1 : w82.cell? ⟨gb580, 1, none⟩ = some (.slice none 0 0) := (blk_cell BK580.out 1).trans rfl; have hfz87_0 := blk_frozen BK580.out 0; have hfz87_1 := blk_frozen BK580.out 1))
        refine bodyPost_ret (results_ct rfl _ _ gb580 46 #[.int .i64 a0_0, .slice A0_1 l0_1.length c0_1] (0, 0) _ rfl (by (with_reducible repeat (first | refine blk_drewN ?_ _ | refine blk_drew ?_ | refine blk_alloc ?_ _)); refine blk_put (cs := #[.int .i64 a0_0, .slice none 0 0]) ?_ 1 _ rfl; (with_reducible repeat (first | refine blk_drewN ?_ _ | refine blk_drew ?_ | refine blk_alloc ?_ _)); refine blk_put (cs := #[.int .i64 0, .slice none 0 0]) ?_ 0 _ rfl; (with_reducible repeat (first | refine blk_drewN ?_ _ | refine blk_drew ?_ | refine blk_alloc ?_ _)); exact BK580.out) Try.underlying46 rfl (by kernel_rfl)) rfl ?_
        exact ⟨_, by first | rfl | (simp [errW_none, errW_some] <;> rfl) | (simp [*, errW_none, errW_some] <;> rfl), by (with_reducible repeat (first | apply Kd.V_alloc | apply Kd.V_drewN | apply Kd.V_drew)); exact Kd.V_mono (Kd.V_far (p := ⟨gb580, 1, none⟩) (Kd.V_far (p := ⟨gb580, 0, none⟩) (Kd.V_mono HO_580001.out (fun k_ hk => (⟨hk, hk.2.2.1⟩ : _ ∧ k_ ≠ gb580))) (fun _ hk => hk.2) (.int .i64 a0_0)) (fun _ hk => hk.2) (.slice A0_1 l0_1.length c0_1)) (fun _ hk => hk.1.1), by repeat (first | (with_reducible first | exact HB.out | apply below_alloc | apply pw_below_drewN | apply below_drew1 | refine below_set ?_ GE579.out | refine below_set ?_ GE580.out | refine below_set ?_ GE583.out) | exact HB.out)⟩

end Go.Proofs.Ytbpobnlkfpjijaa.Pr
