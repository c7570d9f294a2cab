-- Laid by a program (wip/pr.sh), out of the translation.
import Derived.Test.YtbpobnlkfpjijaaPr0
import Derived.Test.YtbpobnlkfpjijaaPr77
import Derived.Test.YtbpobnlkfpjijaaPr78
import Derived.Test.YtbpobnlkfpjijaaPr79
import Derived.Test.YtbpobnlkfpjijaaPr81
import Derived.Test.YtbpobnlkfpjijaaPr89
import Derived.Test.YtbpobnlkfpjijaaPr95
import Derived.Test.YtbpobnlkfpjijaaGd
import Derived.Test.YtbpobnlkfpjijaaGl
namespace Go.Proofs.Ytbpobnlkfpjijaa.Pr
open Go.RowKit Go.Proofs.YtbpobnlkfpjijaaW.PrintWords Go.Proofs.YtbpobnlkfpjijaaW.PrintLast Go.Proofs.YtbpobnlkfpjijaaW.PrintMore
attribute [local go_sem] max2_int min2_int max_two min_two max_three min_three max_four min_four   -- for this text's walks alone
set_option linter.unusedVariables false
set_option linter.unusedSimpArgs false

attribute [local go_sem] Go.Proofs.Aid.cell_set_row
namespace tallysticklaw15_DiskSafe
-- Shrunk by a program (wip/shrink.py).
section
variable {α : Type} {d : Kd α} {e base g : Nat} {ok : Nat → Prop} {W w : World} {v : Value} {xs : List α} {o : Obj}
theorem bA_ (h : w.heap[g]? = some o) (o' : Obj) : (w.alloc o').heap[g]? = some o := blk_alloc h o'
theorem bD_ (h : w.heap[g]? = some o) : w.drew.heap[g]? = some o := h
theorem bN_ (h : w.heap[g]? = some o) (n : Nat) : (w.drewN n).heap[g]? = some o := h
theorem vA_ (h : Kd.V d e W base ok v xs) (o : Obj) : Kd.V d e (W.alloc o) base ok v xs := Kd.V_alloc h o
theorem vD_ (h : Kd.V d e W base ok v xs) : Kd.V d e W.drew base ok v xs := Kd.V_drew h
theorem vN_ (h : Kd.V d e W base ok v xs) (m : Nat) : Kd.V d e (W.drewN m) base ok v xs := Kd.V_drewN h m
end
end tallysticklaw15_DiskSafe
open tallysticklaw15_DiskSafe (bA_ bD_ bN_ vA_ vD_ vN_)
/-! ### tallysticklaw15_DiskSafe: function 11 -/
def tallysticklaw15_DiskSafe.f (k : Nat) (a0_0 : Int) (l0_1 : List (S55)) (a1 : ByteArray) (l2 : List Int) : Option (Bool) := (tallysticklaw15_shown.f k).bind fun t846 => ((tallystickref15_Right.f k a0_0 l0_1).bind fun t847 => (if t847 = true then ((disk_Sync.f a0_0 l0_1 a1).bind fun bt848 => (if bt848.2.2 = 0 then ((disk_Crash.f bt848.1 bt848.2.1 l2).bind fun bt854 => ((disk_Read.f a0_0 l0_1 a1).bind fun bt859 => ((disk_Read.f bt854.1 bt854.2 a1).bind fun bt861 => (if t846 = true then (if bt859.2 = 0 then (if bt861.2 = 0 then (if bt859.1.toList = bt861.1.toList then ((disk_List.f bt854.1 bt854.2 (⟨#[]⟩ : ByteArray)).bind fun t863 => ((disk_List.f a0_0 l0_1 (⟨#[]⟩ : ByteArray)).bind fun t866 => ((tallystickref15_Strings.f k t863 t866).bind fun t869 => (if t869 = true then ((disk_Crash.f bt854.1 bt854.2 l2).bind fun bt870 => ((disk_Same.f k bt870.1 bt870.2 bt854.1 bt854.2).bind fun t874 => (some t874))) else (some false))))) else (some false)) else (some false)) else (some false)) else (some false))))) else (some t846))) else (some t846)))
theorem tallysticklaw15_DiskSafe.mono : ∀ a0 a1 a2 a3 k, LeO (tallysticklaw15_DiskSafe.f k a0 a1 a2 a3) (tallysticklaw15_DiskSafe.f (k + 1) a0 a1 a2 a3) := by
 intro a0 a1 a2 a3 k
 unfold tallysticklaw15_DiskSafe.f
 repeat' first
   | (with_reducible exact disk_Same.mono _ _ _ _ _)
   | (with_reducible exact tallysticklaw15_shown.mono _)
   | (with_reducible exact tallystickref15_Right.mono _ _ _)
   | (with_reducible exact tallystickref15_Strings.mono _ _ _)
   | (with_reducible exact LeO.refl _)
   | (with_reducible exact LeO.none _)
   | (with_reducible refine LeO.ite ?_ ?_)
   | (with_reducible refine LeO.bind ?_ (fun _ => ?_))
   | exact disk_Same.mono _ _ _ _ _
   | exact tallysticklaw15_shown.mono _
   | exact tallystickref15_Right.mono _ _ _
   | exact tallystickref15_Strings.mono _ _ _
   | exact LeO.none _
   | refine LeO.ite ?_ ?_
   | refine LeO.bind ?_ (fun _ => ?_)
def tallysticklaw15_DiskSafe.T11 : Bool × List (List Nat × List Nat) := (true, [([], []), ([0], [0]), ([1], [1]), ([2, 1], [1, 2]), ([1, 3], [1, 3]), ([4, 1], [4]), ([5], [5]), ([6, 5], [5, 6]), ([5, 7], [5, 7]), ([8, 5], [8]), ([9], [9]), ([9], [9]), ([10, 11, 9], [9, 10, 11]), ([9, 12], [9, 12]), ([13, 9], [13]), ([14], [14]), ([15, 14, 14], [14, 15]), ([14], [14]), ([17, 16, 14], [14, 17]), ([16, 18, 18, 14], [14, 16, 18]), ([14, 19], [14, 19]), ([20, 19], [20]), ([21], [21]), ([21], [21]), ([22, 23, 21, 21], [21, 22, 23]), ([21], [21]), ([24, 25, 24, 21], [21, 24, 25]), ([21, 26], [21, 26]), ([27, 26, 0, 1, 2, 3, 4, 5, 6, 7, 8, 9, 10, 11, 12, 13, 14, 15, 16, 17, 18, 19, 20, 21, 22, 23, 24, 25, 26, 27], [27])])
def tallysticklaw15_DiskSafe.B11 : List Nat := [0, 1, 3, 7, 15, 31, 63, 127, 255, 511, 1023, 1023, 4095, 8191, 16383, 32767, 65535, 32767, 262143, 524287, 1048575, 2097151, 4194303, 4194303, 16777215, 4194303, 67108863, 134217727, 268435455]
theorem tallysticklaw15_DiskSafe.tab11 : rtab .any (opsOf Try.f11 11) = tallysticklaw15_DiskSafe.T11 := by kernel_rfl
theorem tallysticklaw15_DiskSafe.bits11 : waitsOk tallysticklaw15_DiskSafe.T11.2 tallysticklaw15_DiskSafe.B11 = true := by kernel_rfl
set_option maxHeartbeats 8000000 in
set_option maxRecDepth 100000 in
theorem tallysticklaw15_DiskSafe.calls (k : Nat) (a0_0 : Int) (A0_1 : Option Addr) (c0_1 : Nat) (l0_1 : List (S55)) (a1 : ByteArray) (A2 : Option Addr) (c2 : Nat) (l2 : List Int) (r : Bool) (w : World) (hr0_1 : Kd.C k55 w A0_1 l0_1.length l0_1) (hc0_1 : l0_1.length ≤ c0_1) (hr2 : Kd.C (Kd.int .u64) w A2 l2.length l2) (hc2 : l2.length ≤ c2) (h : tallysticklaw15_DiskSafe.f k a0_0 l0_1 a1 l2 = some r) :
  Calls Try.prog 11 #[.agg #[.int .i64 a0_0, .slice A0_1 l0_1.length c0_1], .string a1, .slice A2 l2.length c2] w fun e w' => e = .returned (.bool r) ∧ Below w.heap.size w w' := by
 have hu46 := Try.underlying46
 have HR0_1 := Aside0.mk hr0_1
 have HC0_1 := Aside0.mk hc0_1
 clear hr0_1 hc0_1
 have HR2 := Aside0.mk hr2
 have HC2 := Aside0.mk hc2
 clear hr2 hc2
 have HB := Aside0.mk (Below.refl w.heap.size w)
 have H : ((tallysticklaw15_shown.f k).bind fun t846 => ((tallystickref15_Right.f k a0_0 l0_1).bind fun t847 => (if t847 = true then ((disk_Sync.f a0_0 l0_1 a1).bind fun bt848 => (if bt848.2.2 = 0 then ((disk_Crash.f bt848.1 bt848.2.1 l2).bind fun bt854 => ((disk_Read.f a0_0 l0_1 a1).bind fun bt859 => ((disk_Read.f bt854.1 bt854.2 a1).bind fun bt861 => (if t846 = true then (if bt859.2 = 0 then (if bt861.2 = 0 then (if bt859.1.toList = bt861.1.toList then ((disk_List.f bt854.1 bt854.2 (⟨#[]⟩ : ByteArray)).bind fun t863 => ((disk_List.f a0_0 l0_1 (⟨#[]⟩ : ByteArray)).bind fun t866 => ((tallystickref15_Strings.f k t863 t866).bind fun t869 => (if t869 = true then ((disk_Crash.f bt854.1 bt854.2 l2).bind fun bt870 => ((disk_Same.f k bt870.1 bt870.2 bt854.1 bt854.2).bind fun t874 => (some t874))) else (some false))))) else (some false)) else (some false)) else (some false)) else (some false))))) else (some t846))) else (some t846)))) = some r := h
 clear h
 replace H := Option.bind_eq_some_iff.mp H
 obtain ⟨t846, A40, H⟩ := H
 replace H : ((tallystickref15_Right.f k a0_0 l0_1).bind fun t847 => (if t847 = true then ((disk_Sync.f a0_0 l0_1 a1).bind fun bt848 => (if bt848.2.2 = 0 then ((disk_Crash.f bt848.1 bt848.2.1 l2).bind fun bt854 => ((disk_Read.f a0_0 l0_1 a1).bind fun bt859 => ((disk_Read.f bt854.1 bt854.2 a1).bind fun bt861 => (if t846 = true then (if bt859.2 = 0 then (if bt861.2 = 0 then (if bt859.1.toList = bt861.1.toList then ((disk_List.f bt854.1 bt854.2 (⟨#[]⟩ : ByteArray)).bind fun t863 => ((disk_List.f a0_0 l0_1 (⟨#[]⟩ : ByteArray)).bind fun t866 => ((tallystickref15_Strings.f k t863 t866).bind fun t869 => (if t869 = true then ((disk_Crash.f bt854.1 bt854.2 l2).bind fun bt870 => ((disk_Same.f k bt870.1 bt870.2 bt854.1 bt854.2).bind fun t874 => (some t874))) else (some false))))) else (some false)) else (some false)) else (some false)) else (some false))))) else (some t846))) else (some t846))) = some r := H
 have A4 := Aside0.mk A40
 clear A40
 replace H := Option.bind_eq_some_iff.mp H
 obtain ⟨t847, A50, H⟩ := H
 replace H : (if t847 = true then ((disk_Sync.f a0_0 l0_1 a1).bind fun bt848 => (if bt848.2.2 = 0 then ((disk_Crash.f bt848.1 bt848.2.1 l2).bind fun bt854 => ((disk_Read.f a0_0 l0_1 a1).bind fun bt859 => ((disk_Read.f bt854.1 bt854.2 a1).bind fun bt861 => (if t846 = true then (if bt859.2 = 0 then (if bt861.2 = 0 then (if bt859.1.toList = bt861.1.toList then ((disk_List.f bt854.1 bt854.2 (⟨#[]⟩ : ByteArray)).bind fun t863 => ((disk_List.f a0_0 l0_1 (⟨#[]⟩ : ByteArray)).bind fun t866 => ((tallystickref15_Strings.f k t863 t866).bind fun t869 => (if t869 = true then ((disk_Crash.f bt854.1 bt854.2 l2).bind fun bt870 => ((disk_Same.f k bt870.1 bt870.2 bt854.1 bt854.2).bind fun t874 => (some t874))) else (some false))))) else (some false)) else (some false)) else (some false)) else (some false))))) else (some t846))) else (some t846)) = some r := H
 have A5 := Aside0.mk A50
 clear A50
 by_cases c6 : t847 = true
 ·subst c6
  have H1 : ((disk_Sync.f a0_0 l0_1 a1).bind fun bt848 => (if bt848.2.2 = 0 then ((disk_Crash.f bt848.1 bt848.2.1 l2).bind fun bt854 => ((disk_Read.f a0_0 l0_1 a1).bind fun bt859 => ((disk_Read.f bt854.1 bt854.2 a1).bind fun bt861 => (if t846 = true then (if bt859.2 = 0 then (if bt861.2 = 0 then (if bt859.1.toList = bt861.1.toList then ((disk_List.f bt854.1 bt854.2 (⟨#[]⟩ : ByteArray)).bind fun t863 => ((disk_List.f a0_0 l0_1 (⟨#[]⟩ : ByteArray)).bind fun t866 => ((tallystickref15_Strings.f k t863 t866).bind fun t869 => (if t869 = true then ((disk_Crash.f bt854.1 bt854.2 l2).bind fun bt870 => ((disk_Same.f k bt870.1 bt870.2 bt854.1 bt854.2).bind fun t874 => (some t874))) else (some false))))) else (some false)) else (some false)) else (some false)) else (some false))))) else (some t846))) = some r := by rw [if_pos rfl] at H; exact H
  clear H
  have H := H1
  clear H1
  replace H := Option.bind_eq_some_iff.mp H
  obtain ⟨⟨t848, t849, t852⟩, A70, H⟩ := H
  replace H : (if t852 = 0 then ((disk_Crash.f t848 t849 l2).bind fun bt854 => ((disk_Read.f a0_0 l0_1 a1).bind fun bt859 => ((disk_Read.f bt854.1 bt854.2 a1).bind fun bt861 => (if t846 = true then (if bt859.2 = 0 then (if bt861.2 = 0 then (if bt859.1.toList = bt861.1.toList then ((disk_List.f bt854.1 bt854.2 (⟨#[]⟩ : ByteArray)).bind fun t863 => ((disk_List.f a0_0 l0_1 (⟨#[]⟩ : ByteArray)).bind fun t866 => ((tallystickref15_Strings.f k t863 t866).bind fun t869 => (if t869 = true then ((disk_Crash.f bt854.1 bt854.2 l2).bind fun bt870 => ((disk_Same.f k bt870.1 bt870.2 bt854.1 bt854.2).bind fun t874 => (some t874))) else (some false))))) else (some false)) else (some false)) else (some false)) else (some false))))) else (some t846)) = some r := H
  have A7 := Aside0.mk A70
  clear A70
  by_cases c8 : t852 = 0
  ·rw [if_pos c8] at H
   have c8b0 : (t852 == 0) = true := beq_iff_eq.mpr c8
   have c8b1 : (t852 != 0) = false := bne_eq_false_iff_eq.mpr c8
   clear c8
   replace H := Option.bind_eq_some_iff.mp H
   obtain ⟨⟨t854, t855⟩, A90, H⟩ := H
   replace H : ((disk_Read.f a0_0 l0_1 a1).bind fun bt859 => ((disk_Read.f t854 t855 a1).bind fun bt861 => (if t846 = true then (if bt859.2 = 0 then (if bt861.2 = 0 then (if bt859.1.toList = bt861.1.toList then ((disk_List.f t854 t855 (⟨#[]⟩ : ByteArray)).bind fun t863 => ((disk_List.f a0_0 l0_1 (⟨#[]⟩ : ByteArray)).bind fun t866 => ((tallystickref15_Strings.f k t863 t866).bind fun t869 => (if t869 = true then ((disk_Crash.f t854 t855 l2).bind fun bt870 => ((disk_Same.f k bt870.1 bt870.2 t854 t855).bind fun t874 => (some t874))) else (some false))))) else (some false)) else (some false)) else (some false)) else (some false)))) = some r := H
   have A9 := Aside0.mk A90
   clear A90
   replace H := Option.bind_eq_some_iff.mp H
   obtain ⟨⟨t859, t860⟩, A100, H⟩ := H
   replace H : ((disk_Read.f t854 t855 a1).bind fun bt861 => (if t846 = true then (if t860 = 0 then (if bt861.2 = 0 then (if t859.toList = bt861.1.toList then ((disk_List.f t854 t855 (⟨#[]⟩ : ByteArray)).bind fun t863 => ((disk_List.f a0_0 l0_1 (⟨#[]⟩ : ByteArray)).bind fun t866 => ((tallystickref15_Strings.f k t863 t866).bind fun t869 => (if t869 = true then ((disk_Crash.f t854 t855 l2).bind fun bt870 => ((disk_Same.f k bt870.1 bt870.2 t854 t855).bind fun t874 => (some t874))) else (some false))))) else (some false)) else (some false)) else (some false)) else (some false))) = some r := H
   have A10 := Aside0.mk A100
   clear A100
   replace H := Option.bind_eq_some_iff.mp H
   obtain ⟨⟨t861, t862⟩, A110, H⟩ := H
   replace H : (if t846 = true then (if t860 = 0 then (if t862 = 0 then (if t859.toList = t861.toList then ((disk_List.f t854 t855 (⟨#[]⟩ : ByteArray)).bind fun t863 => ((disk_List.f a0_0 l0_1 (⟨#[]⟩ : ByteArray)).bind fun t866 => ((tallystickref15_Strings.f k t863 t866).bind fun t869 => (if t869 = true then ((disk_Crash.f t854 t855 l2).bind fun bt870 => ((disk_Same.f k bt870.1 bt870.2 t854 t855).bind fun t874 => (some t874))) else (some false))))) else (some false)) else (some false)) else (some false)) else (some false)) = some r := H
   have A11 := Aside0.mk A110
   clear A110
   by_cases c12 : t846 = true
   ·subst c12
    have H1 : (if t860 = 0 then (if t862 = 0 then (if t859.toList = t861.toList then ((disk_List.f t854 t855 (⟨#[]⟩ : ByteArray)).bind fun t863 => ((disk_List.f a0_0 l0_1 (⟨#[]⟩ : ByteArray)).bind fun t866 => ((tallystickref15_Strings.f k t863 t866).bind fun t869 => (if t869 = true then ((disk_Crash.f t854 t855 l2).bind fun bt870 => ((disk_Same.f k bt870.1 bt870.2 t854 t855).bind fun t874 => (some t874))) else (some false))))) else (some false)) else (some false)) else (some false)) = some r := by rw [if_pos rfl] at H; exact H
    clear H
    have H := H1
    clear H1
    by_cases c13 : t860 = 0
    ·rw [if_pos c13] at H
     have c13b0 : (t860 == 0) = true := beq_iff_eq.mpr c13
     have c13b1 : (t860 != 0) = false := bne_eq_false_iff_eq.mpr c13
     clear c13
     by_cases c14 : t862 = 0
     ·rw [if_pos c14] at H
      have c14b0 : (t862 == 0) = true := beq_iff_eq.mpr c14
      have c14b1 : (t862 != 0) = false := bne_eq_false_iff_eq.mpr c14
      clear c14
      by_cases c15 : t859.toList = t861.toList
      ·rw [if_pos c15] at H
       have c15b0 : (t859.toList == t861.toList) = true := beq_iff_eq.mpr c15
       have c15b1 : (t859.toList != t861.toList) = false := bne_eq_false_iff_eq.mpr c15
       clear c15
       replace H := Option.bind_eq_some_iff.mp H
       obtain ⟨t863, A160, H⟩ := H
       replace H : ((disk_List.f a0_0 l0_1 (⟨#[]⟩ : ByteArray)).bind fun t866 => ((tallystickref15_Strings.f k t863 t866).bind fun t869 => (if t869 = true then ((disk_Crash.f t854 t855 l2).bind fun bt870 => ((disk_Same.f k bt870.1 bt870.2 t854 t855).bind fun t874 => (some t874))) else (some false)))) = some r := H
       have A16 := Aside0.mk A160
       clear A160
       replace H := Option.bind_eq_some_iff.mp H
       obtain ⟨t866, A170, H⟩ := H
       replace H : ((tallystickref15_Strings.f k t863 t866).bind fun t869 => (if t869 = true then ((disk_Crash.f t854 t855 l2).bind fun bt870 => ((disk_Same.f k bt870.1 bt870.2 t854 t855).bind fun t874 => (some t874))) else (some false))) = some r := H
       have A17 := Aside0.mk A170
       clear A170
       replace H := Option.bind_eq_some_iff.mp H
       obtain ⟨t869, A180, H⟩ := H
       replace H : (if t869 = true then ((disk_Crash.f t854 t855 l2).bind fun bt870 => ((disk_Same.f k bt870.1 bt870.2 t854 t855).bind fun t874 => (some t874))) else (some false)) = some r := H
       have A18 := Aside0.mk A180
       clear A180
       by_cases c19 : t869 = true
       ·subst c19
        have H1 : ((disk_Crash.f t854 t855 l2).bind fun bt870 => ((disk_Same.f k bt870.1 bt870.2 t854 t855).bind fun t874 => (some t874))) = some r := by rw [if_pos rfl] at H; exact H
        clear H
        have H := H1
        clear H1
        replace H := Option.bind_eq_some_iff.mp H
        obtain ⟨⟨t870, t871⟩, A200, H⟩ := H
        replace H : ((disk_Same.f k t870 t871 t854 t855).bind fun t874 => (some t874)) = some r := H
        have A20 := Aside0.mk A200
        clear A200
        replace H := Option.bind_eq_some_iff.mp H
        obtain ⟨t874, A210, H⟩ := H
        replace H : (some t874) = some r := H
        have A21 := Aside0.mk A210
        clear A210
        obtain rfl := Option.some.inj H
        go_enter Try.func11, Try.ntmps11
        try go_wp2_with (first | ((with_reducible refine gate_dst (N := 3) rfl ?_); refine box_event ?hg (N := 3) ?hd (cs := #[.int .i64 a0_0, .slice A0_1 l0_1.length c0_1]) (t := 46) ?hr ?_; (case hd => rfl); (case hg => rfl); (case hr => first | (go_simp; done) | (go_simp; rfl)); intro gb845 hg w22 hbox hb; have n0_ := Aside0.mk (below_step (by repeat (first | (with_reducible first | exact HB.out | apply below_alloc | apply pw_below_drewN | apply below_drew1) | exact HB.out)) hb); have n1_ := Aside0.mk (hbox); have n2_ := Aside0.mk ((by rw [hg]; exact (below_size (by repeat (first | (with_reducible first | exact HB.out | apply below_alloc | apply pw_below_drewN | apply below_drew1) | exact HB.out))) : w.heap.size ≤ gb845)); have n3_ := Aside0.mk ((by rw [hg]; exact (below_size (by repeat (first | (with_reducible first | exact HB.out | apply below_alloc | apply pw_below_drewN | apply below_drew1) | exact HB.out))) : w.heap.size ≤ gb845)); clear HB; have HB := n0_; have BK845 := n1_; have GW845 := n2_; have GE845 := n3_; clear n0_ n1_ n2_ n3_; clear hb hbox hg) | ((with_reducible refine gate_callee (f := 20) rfl ?_); refine goesL_ (some 16) rfl rfl Try.func20 (by kernel_rfl) rfl #[] rfl (by (try simp only [List.map_toArray, List.map_cons, List.map_nil]); first | done | rfl | (simp only [List.length_drop, List.length_take]; rfl)) ?_; (with_reducible refine (tallysticklaw15_shown.calls k  true _ A4.out).mono ?_); rintro e w23 ⟨rfl, hb⟩; refine ⟨_, rfl, ?_⟩; have n0_ := Aside0.mk (blk_below (g := gb845) (by (with_reducible repeat (first|apply bN_|apply bD_|apply bA_)); exact BK845.out) hb); have n1_ := Aside0.mk (below_step (by repeat (first | (with_reducible first | exact HB.out | apply below_alloc | apply pw_below_drewN | apply below_drew1 | refine below_set ?_ GE845.out) | exact HB.out)) hb); clear BK845; clear HB; have BK845 := n0_; have HB := n1_; clear n0_ n1_; (try clear hb); (try clear hb2); (try clear hk); (try clear hi); have hcz24_0 : w23.cell? ⟨gb845, 0, none⟩ = some (.int .i64 a0_0) := (blk_cell BK845.out 0).trans rfl; have hcz24_1 : w23.cell? ⟨gb845, 1, none⟩ = some (.slice A0_1 l0_1.length c0_1) := (blk_cell BK845.out 1).trans rfl; have hfz24_0 := blk_frozen BK845.out 0; have hfz24_1 := blk_frozen BK845.out 1) | ((with_reducible refine gate_callee (f := 21) rfl ?_); refine goesL_ (some 18) rfl rfl Try.func21 (by kernel_rfl) rfl #[.agg #[.int .i64 a0_0, .slice A0_1 l0_1.length c0_1]] rfl (by (try simp only [List.map_toArray, List.map_cons, List.map_nil]); first | done | rfl | (simp only [List.length_drop, List.length_take]; rfl)) ?_; (with_reducible refine (tallystickref15_Right.calls k a0_0 _ _ l0_1 true _ ?side1 ?side2 A5.out).mono ?_); (case side1 => repeat (first | exact (Kd.C_below HR0_1.out HB.out) | (with_reducible refine Kd.C_alloc ?_ _) | (with_reducible refine Kd.C_drewN ?_ _) | (with_reducible refine Kd.C_drew ?_))); (case side2 => exact HC0_1.out); rintro e w25 ⟨rfl, hb⟩; refine ⟨_, rfl, ?_⟩; have n0_ := Aside0.mk (blk_below (g := gb845) (by (with_reducible repeat (first|apply bN_|apply bD_|apply bA_)); exact BK845.out) hb); have n1_ := Aside0.mk (below_step (by repeat (first | (with_reducible first | exact HB.out | apply below_alloc | apply pw_below_drewN | apply below_drew1 | refine below_set ?_ GE845.out) | exact HB.out)) hb); clear BK845; clear HB; have BK845 := n0_; have HB := n1_; clear n0_ n1_; (try clear hb); (try clear hb2); (try clear hk); (try clear hi); have hcz26_0 : w25.cell? ⟨gb845, 0, none⟩ = some (.int .i64 a0_0) := (blk_cell BK845.out 0).trans rfl; have hcz26_1 : w25.cell? ⟨gb845, 1, none⟩ = some (.slice A0_1 l0_1.length c0_1) := (blk_cell BK845.out 1).trans rfl; have hfz26_0 := blk_frozen BK845.out 0; have hfz26_1 := blk_frozen BK845.out 1) | ((with_reducible refine gate_callee (f := 32) rfl ?_); refine goesL_ (some 25) rfl rfl Try.func32 (by kernel_rfl) rfl #[.agg #[.int .i64 a0_0, .slice A0_1 l0_1.length c0_1], .string a1] rfl (by (try simp only [List.map_toArray, List.map_cons, List.map_nil]); first | done | rfl | (simp only [List.length_drop, List.length_take]; rfl)) ?_; (with_reducible refine (disk_Sync.calls a0_0 (fun k_ => k_ < w.heap.size) _ _ l0_1 a1 t848 t849 t852 _ ?side1 A7.out).mono ?_); (case side1 => exact Kd.V_mk HC0_1.out (Kd.F_below (Kd.C_F k55_heap HR0_1.out) (by repeat (first | (with_reducible first | exact HB.out | apply below_alloc | apply pw_below_drewN | apply below_drew1 | refine below_set ?_ GE845.out) | exact HB.out)))); rintro e w27 ⟨v850, rfl, ho0, hb⟩; refine ⟨_, rfl, ?_⟩; have n0_ := Aside0.mk (Kd.V_lower (Kd.V_mono (ok' := fun k_ => k_ ≠ gb845) ho0 (fun k_ hk_ => Or.elim hk_ (fun hs_ => fun e_ => Nat.not_le.2 hs_ (by rw [e_]; exact GW845.out)) (fun hn_ => (Kd.freshB (g := gb845) (by (with_reducible repeat (first|apply bN_|apply bD_|apply bA_)); exact BK845.out) k_ hn_)))) (below_size (by repeat (first | (with_reducible first | exact HB.out | apply below_alloc | apply pw_below_drewN | apply below_drew1 | refine below_set ?_ GE845.out) | exact HB.out)))); have n1_ := Aside0.mk (blk_below (g := gb845) (by (with_reducible repeat (first|apply bN_|apply bD_|apply bA_)); exact BK845.out) hb); have n2_ := Aside0.mk (below_step (by repeat (first | (with_reducible first | exact HB.out | apply below_alloc | apply pw_below_drewN | apply below_drew1 | refine below_set ?_ GE845.out) | exact HB.out)) hb); clear BK845; clear HB; have HO851 := n0_; have BK845 := n1_; have HB := n2_; clear n0_ n1_ n2_; (try clear hb); (try clear hb2); (try clear hk); (try clear hi); (try clear ho0)) | ((with_reducible refine gate_dst (N := 9) rfl ?_); refine box_event ?hg (N := 9) ?hd (cs := #[.int .i64 0, .slice none 0 0]) (t := 46) ?hr ?_; (case hd => rfl); (case hg => rfl); (case hr => first | (go_simp; done) | (go_simp; rfl)); intro gb853 hg w28 hbox hb; have n0_ := Aside0.mk (Kd.V_below (Kd.V_elderB (by (with_reducible repeat (first|apply vA_|apply vN_|apply vD_)); exact HO851.out) gb853 (Nat.le_of_eq hg.symm)) hb); have n1_ := Aside0.mk (blk_below (g := gb845) (by (with_reducible repeat (first|apply bN_|apply bD_|apply bA_)); exact BK845.out) hb); have n2_ := Aside0.mk (below_step (by repeat (first | (with_reducible first | exact HB.out | apply below_alloc | apply pw_below_drewN | apply below_drew1 | refine below_set ?_ GE845.out) | exact HB.out)) hb); have n3_ := Aside0.mk (hbox); have n4_ := Aside0.mk ((by rw [hg]; exact (below_size (by repeat (first | (with_reducible first | exact HB.out | apply below_alloc | apply pw_below_drewN | apply below_drew1 | refine below_set ?_ GE845.out) | exact HB.out))) : w.heap.size ≤ gb853)); have n5_ := Aside0.mk ((by rw [hg]; exact (below_size (by repeat (first | (with_reducible first | exact HB.out | apply below_alloc | apply pw_below_drewN | apply below_drew1 | refine below_set ?_ GE845.out) | exact HB.out))) : w.heap.size ≤ gb853)); have n6_ := Aside0.mk ((by rw [hg]; exact Nat.ne_of_lt (blk_lt (g := gb845) (by (with_reducible repeat (first|apply bN_|apply bD_|apply bA_)); exact BK845.out)) : gb845 ≠ gb853)); have n7_ := Aside0.mk ((by rw [hg]; exact Nat.ne_of_gt (blk_lt (g := gb845) (by (with_reducible repeat (first|apply bN_|apply bD_|apply bA_)); exact BK845.out)) : gb853 ≠ gb845)); clear HO851; clear BK845; clear HB; have HO851 := n0_; have BK845 := n1_; have HB := n2_; have BK853 := n3_; have GW853 := n4_; have GE853 := n5_; have NB845_853 := n6_; have NB853_845 := n7_; clear n0_ n1_ n2_ n3_ n4_ n5_ n6_ n7_; clear hb hbox hg; have hnb29 := NB853_845.out; have hnc29 := NB845_853.out; have hcz30_0 : w28.cell? ⟨gb853, 0, none⟩ = some (.int .i64 0) := (blk_cell BK853.out 0).trans rfl; have hcz30_1 : w28.cell? ⟨gb853, 1, none⟩ = some (.slice none 0 0) := (blk_cell BK853.out 1).trans rfl; have hfz30_0 := blk_frozen BK853.out 0; have hfz30_1 := blk_frozen BK853.out 1; obtain ⟨Ao31, co31, eo31⟩ := Kd.V_slice HO851.out; subst eo31) | ((with_reducible refine gate_store (t := 46) (p := 9) rfl ?_); refine store_event (t := 46) (p := 9) (v := ?vo_w32) (w1 := ((w28.setCell ⟨gb853, 0, none⟩ (.int .i64 t848)).setCell ⟨gb853, 1, none⟩ (.slice Ao31 t849.length co31))) ?hg ?ho ?hn ?hr ?_; (case ho => rfl); (case hg => rfl); (case hn => rfl); (case hr => first | (go_simp; done) | (go_simp; rfl)); intro w32 hw; have n0_ : Aside0 (Kd.V k55 55 w32 w.heap.size (fun k_ => k_ ≠ gb845 ∧ k_ ≠ gb853) (.slice Ao31 t849.length co31) t849) := ⟨(by rw [hw]; exact (by (with_reducible repeat (first|apply vA_|apply vN_|apply vD_)); exact Kd.V_mono (Kd.V_far (p := ⟨gb853, 1, none⟩) (Kd.V_far (p := ⟨gb853, 0, none⟩) (Kd.V_mono HO851.out (fun k_ hk => (⟨hk, hk.2⟩ : _ ∧ k_ ≠ gb853))) (fun _ hk => hk.2) (.int .i64 t848)) (fun _ hk => hk.2) (.slice Ao31 t849.length co31)) (fun _ hk => ⟨hk.1.1, hk.1.2⟩)))⟩; have n1_ : Aside0 (w32.heap[gb845]? = some (.cells #[.int .i64 a0_0, .slice A0_1 l0_1.length c0_1] 46 (0, 0))) := ⟨(by rw [hw]; exact (by (with_reducible repeat (first|apply bN_|apply bD_|apply bA_)); refine blk_far ?_ NB845_853.out _; (with_reducible repeat (first|apply bN_|apply bD_|apply bA_)); refine blk_far ?_ NB845_853.out _; (with_reducible repeat (first|apply bN_|apply bD_|apply bA_)); exact BK845.out))⟩; have n2_ : Aside0 (w32.heap[gb853]? = some (.cells #[.int .i64 t848, .slice Ao31 t849.length co31] 46 (0, 0))) := ⟨(by rw [hw]; exact (by (with_reducible repeat (first|apply bN_|apply bD_|apply bA_)); refine blk_put (cs := #[.int .i64 t848, .slice none 0 0]) ?_ 1 _ rfl; (with_reducible repeat (first|apply bN_|apply bD_|apply bA_)); refine blk_put (cs := #[.int .i64 0, .slice none 0 0]) ?_ 0 _ rfl; (with_reducible repeat (first|apply bN_|apply bD_|apply bA_)); exact BK853.out))⟩; have n3_ : Aside0 (Below w.heap.size w w32) := ⟨(by rw [hw]; exact (by repeat (first | (with_reducible first | exact HB.out | apply below_alloc | apply pw_below_drewN | apply below_drew1 | refine below_set ?_ GE845.out | refine below_set ?_ GE853.out) | exact HB.out)))⟩; clear hw; clear HO851; clear BK845; clear BK853; clear HB; have HO851 := n0_; have BK845 := n1_; have BK853 := n2_; have HB := n3_; clear n0_ n1_ n2_ n3_; have hcz33_0 : w32.cell? ⟨gb853, 0, none⟩ = some (.int .i64 t848) := (blk_cell BK853.out 0).trans rfl; have hcz33_1 : w32.cell? ⟨gb853, 1, none⟩ = some (.slice Ao31 t849.length co31) := (blk_cell BK853.out 1).trans rfl; have hfz33_0 := blk_frozen BK853.out 0; have hfz33_1 := blk_frozen BK853.out 1) | ((with_reducible refine gate_callee (f := 24) rfl ?_); refine goesL_ (some 33) rfl rfl Try.func24 (by kernel_rfl) rfl #[.agg #[.int .i64 t848, .slice Ao31 t849.length co31], .slice A2 l2.length c2] rfl (by (try simp only [List.map_toArray, List.map_cons, List.map_nil]); first | done | rfl | (simp only [List.length_drop, List.length_take]; rfl)) ?_; (with_reducible refine (disk_Crash.calls t848 (fun k_ => (k_ ≠ gb845 ∧ k_ ≠ gb853)) _ _ t849 (fun k_ => k_ < w.heap.size) _ _ l2 t854 t855 _ ?side1 ?side2 A9.out).mono ?_); (case side1 => exact HO851.out); (case side2 => exact Kd.V_mk HC2.out (Kd.F_below (Kd.C_F (Kd.heap_int .u64) HR2.out) (by repeat (first | (with_reducible first | exact HB.out | apply below_alloc | apply pw_below_drewN | apply below_drew1 | refine below_set ?_ GE845.out | refine below_set ?_ GE853.out) | exact HB.out)))); rintro e w34 ⟨v856, rfl, ho0, hb⟩; refine ⟨_, rfl, ?_⟩; have n0_ := Aside0.mk (Kd.V_below (by (with_reducible repeat (first|apply vA_|apply vN_|apply vD_)); exact HO851.out) hb); have n1_ := Aside0.mk (Kd.V_lower (Kd.V_mono (ok' := fun k_ => k_ ≠ gb845 ∧ k_ ≠ gb853) ho0 (fun k_ hk_ => ⟨Or.elim hk_ (fun hs_ => Or.elim hs_ (fun hs_ => hs_.1) (fun hs_ => fun e_ => Nat.not_le.2 hs_ (by rw [e_]; exact GW845.out))) (fun hn_ => (Kd.freshB (g := gb845) (by (with_reducible repeat (first|apply bN_|apply bD_|apply bA_)); exact BK845.out) k_ hn_)), Or.elim hk_ (fun hs_ => Or.elim hs_ (fun hs_ => hs_.2) (fun hs_ => fun e_ => Nat.not_le.2 hs_ (by rw [e_]; exact GW853.out))) (fun hn_ => (Kd.freshB (g := gb853) (by (with_reducible repeat (first|apply bN_|apply bD_|apply bA_)); exact BK853.out) k_ hn_))⟩)) (below_size (by repeat (first | (with_reducible first | exact HB.out | apply below_alloc | apply pw_below_drewN | apply below_drew1 | refine below_set ?_ GE845.out | refine below_set ?_ GE853.out) | exact HB.out)))); have n2_ := Aside0.mk (blk_below (g := gb845) (by (with_reducible repeat (first|apply bN_|apply bD_|apply bA_)); exact BK845.out) hb); have n3_ := Aside0.mk (blk_below (g := gb853) (by (with_reducible repeat (first|apply bN_|apply bD_|apply bA_)); exact BK853.out) hb); have n4_ := Aside0.mk (below_step (by repeat (first | (with_reducible first | exact HB.out | apply below_alloc | apply pw_below_drewN | apply below_drew1 | refine below_set ?_ GE845.out | refine below_set ?_ GE853.out) | exact HB.out)) hb); clear HO851; clear BK845; clear BK853; clear HB; have HO851 := n0_; have HO857 := n1_; have BK845 := n2_; have BK853 := n3_; have HB := n4_; clear n0_ n1_ n2_ n3_ n4_; (try clear hb); (try clear hb2); (try clear hk); (try clear hi); (try clear ho0)) | ((with_reducible refine gate_dst (N := 11) rfl ?_); refine box_event ?hg (N := 11) ?hd (cs := #[.int .i64 0, .slice none 0 0]) (t := 46) ?hr ?_; (case hd => rfl); (case hg => rfl); (case hr => first | (go_simp; done) | (go_simp; rfl)); intro gb858 hg w35 hbox hb; have n0_ := Aside0.mk (Kd.V_below (Kd.V_elderB (by (with_reducible repeat (first|apply vA_|apply vN_|apply vD_)); exact HO851.out) gb858 (Nat.le_of_eq hg.symm)) hb); have n1_ := Aside0.mk (Kd.V_below (Kd.V_elderB (by (with_reducible repeat (first|apply vA_|apply vN_|apply vD_)); exact HO857.out) gb858 (Nat.le_of_eq hg.symm)) hb); have n2_ := Aside0.mk (blk_below (g := gb845) (by (with_reducible repeat (first|apply bN_|apply bD_|apply bA_)); exact BK845.out) hb); have n3_ := Aside0.mk (blk_below (g := gb853) (by (with_reducible repeat (first|apply bN_|apply bD_|apply bA_)); exact BK853.out) hb); have n4_ := Aside0.mk (below_step (by repeat (first | (with_reducible first | exact HB.out | apply below_alloc | apply pw_below_drewN | apply below_drew1 | refine below_set ?_ GE845.out | refine below_set ?_ GE853.out) | exact HB.out)) hb); have n5_ := Aside0.mk (hbox); have n6_ := Aside0.mk ((by rw [hg]; exact (below_size (by repeat (first | (with_reducible first | exact HB.out | apply below_alloc | apply pw_below_drewN | apply below_drew1 | refine below_set ?_ GE845.out | refine below_set ?_ GE853.out) | exact HB.out))) : w.heap.size ≤ gb858)); have n7_ := Aside0.mk ((by rw [hg]; exact (below_size (by repeat (first | (with_reducible first | exact HB.out | apply below_alloc | apply pw_below_drewN | apply below_drew1 | refine below_set ?_ GE845.out | refine below_set ?_ GE853.out) | exact HB.out))) : w.heap.size ≤ gb858)); have n8_ := Aside0.mk ((by rw [hg]; exact Nat.ne_of_lt (blk_lt (g := gb845) (by (with_reducible repeat (first|apply bN_|apply bD_|apply bA_)); exact BK845.out)) : gb845 ≠ gb858)); have n9_ := Aside0.mk ((by rw [hg]; exact Nat.ne_of_gt (blk_lt (g := gb845) (by (with_reducible repeat (first|apply bN_|apply bD_|apply bA_)); exact BK845.out)) : gb858 ≠ gb845)); have n10_ := Aside0.mk ((by rw [hg]; exact Nat.ne_of_lt (blk_lt (g := gb853) (by (with_reducible repeat (first|apply bN_|apply bD_|apply bA_)); exact BK853.out)) : gb853 ≠ gb858)); have n11_ := Aside0.mk ((by rw [hg]; exact Nat.ne_of_gt (blk_lt (g := gb853) (by (with_reducible repeat (first|apply bN_|apply bD_|apply bA_)); exact BK853.out)) : gb858 ≠ gb853)); clear HO851; clear HO857; clear BK845; clear BK853; clear HB; have HO851 := n0_; have HO857 := n1_; have BK845 := n2_; have BK853 := n3_; have HB := n4_; have BK858 := n5_; have GW858 := n6_; have GE858 := n7_; have NB845_858 := n8_; have NB858_845 := n9_; have NB853_858 := n10_; have NB858_853 := n11_; clear n0_ n1_ n2_ n3_ n4_ n5_ n6_ n7_ n8_ n9_ n10_ n11_; clear hb hbox hg; have hnb36 := NB858_845.out; have hnc36 := NB845_858.out; have hnb37 := NB858_853.out; have hnc37 := NB853_858.out; have hcz38_0 : w35.cell? ⟨gb858, 0, none⟩ = some (.int .i64 0) := (blk_cell BK858.out 0).trans rfl; have hcz38_1 : w35.cell? ⟨gb858, 1, none⟩ = some (.slice none 0 0) := (blk_cell BK858.out 1).trans rfl; have hfz38_0 := blk_frozen BK858.out 0; have hfz38_1 := blk_frozen BK858.out 1; obtain ⟨Ao39, co39, eo39⟩ := Kd.V_slice HO857.out; subst eo39; have hcz40_0 : w35.cell? ⟨gb845, 0, none⟩ = some (.int .i64 a0_0) := (blk_cell BK845.out 0).trans rfl; have hcz40_1 : w35.cell? ⟨gb845, 1, none⟩ = some (.slice A0_1 l0_1.length c0_1) := (blk_cell BK845.out 1).trans rfl; have hfz40_0 := blk_frozen BK845.out 0; have hfz40_1 := blk_frozen BK845.out 1) | ((with_reducible refine gate_callee (f := 31) rfl ?_); refine goesL_ (some 37) rfl rfl Try.func31 (by kernel_rfl) rfl #[.agg #[.int .i64 a0_0, .slice A0_1 l0_1.length c0_1], .string a1] rfl (by (try simp only [List.map_toArray, List.map_cons, List.map_nil]); first | done | rfl | (simp only [List.length_drop, List.length_take]; rfl)) ?_; (with_reducible refine (disk_Read.calls a0_0 _ _ l0_1 a1 t859 t860 _ ?side1 ?side2 A10.out).mono ?_); (case side1 => exact Kd.C_below HR0_1.out (by repeat (first | (with_reducible first | exact HB.out | apply below_alloc | apply pw_below_drewN | apply below_drew1 | refine below_set ?_ GE845.out | refine below_set ?_ GE853.out | refine below_set ?_ GE858.out) | exact HB.out))); (case side2 => exact HC0_1.out); rintro e w41 ⟨rfl, hb⟩; refine ⟨_, rfl, ?_⟩; have n0_ := Aside0.mk (Kd.V_below (by (with_reducible repeat (first|apply vA_|apply vN_|apply vD_)); exact (Kd.V_mono (Kd.V_far (p := ⟨gb858, 1, none⟩) (Kd.V_far (p := ⟨gb858, 0, none⟩) (Kd.V_mono HO851.out (fun k_ hk => (⟨hk, hk.2⟩ : _ ∧ k_ ≠ gb858))) (fun _ hk => hk.2) (.int .i64 t854)) (fun _ hk => hk.2) (.slice Ao39 t855.length co39)) (fun _ h_ => h_.1))) hb); have n1_ := Aside0.mk (Kd.V_below (by (with_reducible repeat (first|apply vA_|apply vN_|apply vD_)); exact (Kd.V_mono (Kd.V_far (p := ⟨gb858, 1, none⟩) (Kd.V_far (p := ⟨gb858, 0, none⟩) (Kd.V_mono HO857.out (fun k_ hk => (⟨hk, hk.2⟩ : _ ∧ k_ ≠ gb858))) (fun _ hk => hk.2) (.int .i64 t854)) (fun _ hk => hk.2) (.slice Ao39 t855.length co39)) (fun _ h_ => h_.1))) hb); have n2_ := Aside0.mk (blk_below (g := gb845) (o := .cells #[.int .i64 a0_0, .slice A0_1 l0_1.length c0_1] 46 (0, 0)) (by (with_reducible repeat (first|apply bN_|apply bD_|apply bA_)); refine blk_far ?_ NB845_858.out _; (with_reducible repeat (first|apply bN_|apply bD_|apply bA_)); refine blk_far ?_ NB845_858.out _; (with_reducible repeat (first|apply bN_|apply bD_|apply bA_)); exact BK845.out) hb); have n3_ := Aside0.mk (blk_below (g := gb853) (o := .cells #[.int .i64 t848, .slice Ao31 t849.length co31] 46 (0, 0)) (by (with_reducible repeat (first|apply bN_|apply bD_|apply bA_)); refine blk_far ?_ NB853_858.out _; (with_reducible repeat (first|apply bN_|apply bD_|apply bA_)); refine blk_far ?_ NB853_858.out _; (with_reducible repeat (first|apply bN_|apply bD_|apply bA_)); exact BK853.out) hb); have n4_ := Aside0.mk (blk_below (g := gb858) (o := .cells #[.int .i64 t854, .slice Ao39 t855.length co39] 46 (0, 0)) (by (with_reducible repeat (first|apply bN_|apply bD_|apply bA_)); refine blk_put (cs := #[.int .i64 t854, .slice none 0 0]) ?_ 1 _ rfl; (with_reducible repeat (first|apply bN_|apply bD_|apply bA_)); refine blk_put (cs := #[.int .i64 0, .slice none 0 0]) ?_ 0 _ rfl; (with_reducible repeat (first|apply bN_|apply bD_|apply bA_)); exact BK858.out) hb); have n5_ := Aside0.mk (below_step (by repeat (first | (with_reducible first | exact HB.out | apply below_alloc | apply pw_below_drewN | apply below_drew1 | refine below_set ?_ GE845.out | refine below_set ?_ GE853.out | refine below_set ?_ GE858.out) | exact HB.out)) hb); clear HO851; clear HO857; clear BK845; clear BK853; clear BK858; clear HB; have HO851 := n0_; have HO857 := n1_; have BK845 := n2_; have BK853 := n3_; have BK858 := n4_; have HB := n5_; clear n0_ n1_ n2_ n3_ n4_ n5_; (try clear hb); (try clear hb2); (try clear hk); (try clear hi); have hcz42_0 : w41.cell? ⟨gb858, 0, none⟩ = some (.int .i64 t854) := (blk_cell BK858.out 0).trans rfl; have hcz42_1 : w41.cell? ⟨gb858, 1, none⟩ = some (.slice Ao39 t855.length co39) := (blk_cell BK858.out 1).trans rfl; have hfz42_0 := blk_frozen BK858.out 0; have hfz42_1 := blk_frozen BK858.out 1) | ((with_reducible refine gate_callee (f := 31) rfl ?_); refine goesL_ (some 43) rfl rfl Try.func31 (by kernel_rfl) rfl #[.agg #[.int .i64 t854, .slice Ao39 t855.length co39], .string a1] rfl (by (try simp only [List.map_toArray, List.map_cons, List.map_nil]); first | done | rfl | (simp only [List.length_drop, List.length_take]; rfl)) ?_; (with_reducible refine (disk_Read.calls t854 _ _ t855 a1 t861 t862 _ ?side1 ?side2 A11.out).mono ?_); (case side1 => repeat (first | exact (Kd.V_reads' HO857.out).2.2 | (with_reducible refine Kd.C_alloc ?_ _) | (with_reducible refine Kd.C_drewN ?_ _) | (with_reducible refine Kd.C_drew ?_))); (case side2 => exact (Kd.V_reads' HO857.out).2.1); rintro e w43 ⟨rfl, hb⟩; refine ⟨_, rfl, ?_⟩; have n0_ := Aside0.mk (Kd.V_below (by (with_reducible repeat (first|apply vA_|apply vN_|apply vD_)); exact HO851.out) hb); have n1_ := Aside0.mk (Kd.V_below (by (with_reducible repeat (first|apply vA_|apply vN_|apply vD_)); exact HO857.out) hb); have n2_ := Aside0.mk (blk_below (g := gb845) (by (with_reducible repeat (first|apply bN_|apply bD_|apply bA_)); exact BK845.out) hb); have n3_ := Aside0.mk (blk_below (g := gb853) (by (with_reducible repeat (first|apply bN_|apply bD_|apply bA_)); exact BK853.out) hb); have n4_ := Aside0.mk (blk_below (g := gb858) (by (with_reducible repeat (first|apply bN_|apply bD_|apply bA_)); exact BK858.out) hb); have n5_ := Aside0.mk (below_step (by repeat (first | (with_reducible first | exact HB.out | apply below_alloc | apply pw_below_drewN | apply below_drew1 | refine below_set ?_ GE845.out | refine below_set ?_ GE853.out | refine below_set ?_ GE858.out) | exact HB.out)) hb); clear HO851; clear HO857; clear BK845; clear BK853; clear BK858; clear HB; have HO851 := n0_; have HO857 := n1_; have BK845 := n2_; have BK853 := n3_; have BK858 := n4_; have HB := n5_; clear n0_ n1_ n2_ n3_ n4_ n5_; (try clear hb); (try clear hb2); (try clear hk); (try clear hi)))
        have n0_ := Aside0.mk (Kd.V_drew HO851.out)
        have n1_ := Aside0.mk (Kd.V_drew HO857.out)
        have n2_ := Aside0.mk (blk_drew BK845.out)
        have n3_ := Aside0.mk (blk_drew BK853.out)
        have n4_ := Aside0.mk (blk_drew BK858.out)
        have n5_ := Aside0.mk (below_drew1 HB.out)
        clear HO851
        clear HO857
        clear BK845
        clear BK853
        clear BK858
        clear HB
        have HO851 := n0_
        have HO857 := n1_
        have BK845 := n2_
        have BK853 := n3_
        have BK858 := n4_
        have HB := n5_
        clear n0_ n1_ n2_ n3_ n4_ n5_
        refine start_ (n := 29) (S := fun w' => w'.cell? ⟨gb858, 0, none⟩ = some (.int .i64 t854) ∧ w'.cell? ⟨gb858, 1, none⟩ = some (.slice Ao39 t855.length co39) ∧ w'.cell? ⟨gb845, 0, none⟩ = some (.int .i64 a0_0) ∧ w'.cell? ⟨gb845, 1, none⟩ = some (.slice A0_1 l0_1.length c0_1)) (ds := []) #[false, false, false, false, false, false, false, false, false, false, false, false, false, false, false, false, false, false, false, false, false, false, false, false, false, false, false, false, false] (by kernel_rfl) rfl rfl ⟨(blk_cell BK858.out 0).trans rfl, (blk_cell BK858.out 1).trans rfl, (blk_cell BK845.out 0).trans rfl, (blk_cell BK845.out 1).trans rfl⟩ (fun hHeld => ?_); refine with_tabW tallysticklaw15_DiskSafe.tab11 tallysticklaw15_DiskSafe.bits11 (fun HT_ HW_ => ?_)
        generalize w43.drew = w44 at HO851 HO857 BK845 BK853 BK858 HB hHeld ⊢
        refine pure_ (i := 0) (N := some 46) (v := ?_) (a' := ?_) #[true, false, false, false, false, false, false, false, false, false, false, false, false, false, false, false, false, false, false, false, false, false, false, false, false, false, false, false, false] rfl rfl (any_of HT_.out (by kernel_rfl)) (fun _ _ _ h => h) (Or.inl ⟨by rfl, ?_⟩) ?_ ?_
        rotate_left
        ·intro w'
         go_simp
         with_reducible rfl
        rotate_left
        ·simp only [Act.put, List.setIfInBounds_toArray, List.set_cons_zero, List.set_cons_succ, i64_w, i32_w]
         rfl
        refine pure_ (i := 1) (N := some 47) (v := ?_) (a' := ?_) #[true, true, false, false, false, false, false, false, false, false, false, false, false, false, false, false, false, false, false, false, false, false, false, false, false, false, false, false, false] rfl rfl (any_of HT_.out (by kernel_rfl)) (fun _ _ _ h => h) (Or.inl ⟨by rfl, ?_⟩) ?_ ?_
        rotate_left
        ·intro w'
         go_simp
         with_reducible rfl
        rotate_left
        ·simp only [Act.put, List.setIfInBounds_toArray, List.set_cons_zero, List.set_cons_succ, i64_w, i32_w]
         rfl
        refine pure_ (i := 2) (N := some 48) (v := ?_) (a' := ?_) #[true, true, true, false, false, false, false, false, false, false, false, false, false, false, false, false, false, false, false, false, false, false, false, false, false, false, false, false, false] rfl rfl (any_of HT_.out (by kernel_rfl)) (fun _ _ _ h => h) (Or.inl ⟨by rfl, ?_⟩) ?_ ?_
        rotate_left
        ·intro w'
         go_simp
         with_reducible rfl
        rotate_left
        ·simp only [Act.put, List.setIfInBounds_toArray, List.set_cons_zero, List.set_cons_succ, i64_w, i32_w]
         rfl
        refine pure_ (i := 3) (N := some 49) (v := ?_) (a' := ?_) #[true, true, true, true, false, false, false, false, false, false, false, false, false, false, false, false, false, false, false, false, false, false, false, false, false, false, false, false, false] rfl rfl (any_of HT_.out (by kernel_rfl)) (fun _ _ _ h => h) (Or.inl ⟨by rfl, ?_⟩) ?_ ?_
        rotate_left
        ·intro w'
         go_simp
         with_reducible rfl
        rotate_left
        ·simp only [Act.put, List.setIfInBounds_toArray, List.set_cons_zero, List.set_cons_succ, i64_w, i32_w]
         rfl
        refine pure_ (i := 4) (N := some 50) (v := ?_) (a' := ?_) #[true, true, true, true, true, false, false, false, false, false, false, false, false, false, false, false, false, false, false, false, false, false, false, false, false, false, false, false, false] rfl rfl (any_of HT_.out (by kernel_rfl)) (fun _ _ _ h => h) (Or.inl ⟨by rfl, ?_⟩) ?_ ?_
        rotate_left
        ·intro w'
         go_simp
         with_reducible rfl
        rotate_left
        ·simp only [Act.put, List.setIfInBounds_toArray, List.set_cons_zero, List.set_cons_succ, i64_w, i32_w]
         rfl
        refine pure_ (i := 5) (N := some 51) (v := ?_) (a' := ?_) #[true, true, true, true, true, true, false, false, false, false, false, false, false, false, false, false, false, false, false, false, false, false, false, false, false, false, false, false, false] rfl rfl (any_of HT_.out (by kernel_rfl)) (fun _ _ _ h => h) (Or.inl ⟨by rfl, ?_⟩) ?_ ?_
        rotate_left
        ·intro w'
         go_simp
         with_reducible rfl
        rotate_left
        ·simp only [Act.put, List.setIfInBounds_toArray, List.set_cons_zero, List.set_cons_succ, i64_w, i32_w]
         rfl
        refine pure_ (i := 6) (N := some 52) (v := ?_) (a' := ?_) #[true, true, true, true, true, true, true, false, false, false, false, false, false, false, false, false, false, false, false, false, false, false, false, false, false, false, false, false, false] rfl rfl (any_of HT_.out (by kernel_rfl)) (fun _ _ _ h => h) (Or.inl ⟨by rfl, ?_⟩) ?_ ?_
        rotate_left
        ·intro w'
         go_simp
         with_reducible rfl
        rotate_left
        ·simp only [Act.put, List.setIfInBounds_toArray, List.set_cons_zero, List.set_cons_succ, i64_w, i32_w]
         rfl
        refine pure_ (i := 7) (N := some 53) (v := ?_) (a' := ?_) #[true, true, true, true, true, true, true, true, false, false, false, false, false, false, false, false, false, false, false, false, false, false, false, false, false, false, false, false, false] rfl rfl (any_of HT_.out (by kernel_rfl)) (fun _ _ _ h => h) (Or.inl ⟨by rfl, ?_⟩) ?_ ?_
        rotate_left
        ·intro w'
         go_simp
         with_reducible rfl
        rotate_left
        ·simp only [Act.put, List.setIfInBounds_toArray, List.set_cons_zero, List.set_cons_succ, i64_w, i32_w]
         rfl
        refine pure_ (i := 8) (N := some 54) (v := ?_) (a' := ?_) #[true, true, true, true, true, true, true, true, true, false, false, false, false, false, false, false, false, false, false, false, false, false, false, false, false, false, false, false, false] rfl rfl (any_of HT_.out (by kernel_rfl)) (fun _ _ _ h => h) (Or.inl ⟨by rfl, ?_⟩) ?_ ?_
        rotate_left
        ·intro w'
         go_simp
         with_reducible rfl
        rotate_left
        ·simp only [Act.put, List.setIfInBounds_toArray, List.set_cons_zero, List.set_cons_succ, i64_w, i32_w]
         rfl
        refine pure_ (i := 9) (N := some 55) (v := ?_) (a' := ?_) #[true, true, true, true, true, true, true, true, true, true, false, false, false, false, false, false, false, false, false, false, false, false, false, false, false, false, false, false, false] rfl rfl (any_of HT_.out (by kernel_rfl)) (fun _ _ _ h => h) (Or.inl ⟨by rfl, ?_⟩) ?_ ?_
        rotate_left
        ·intro w'
         go_simp
         with_reducible rfl
        rotate_left
        ·simp only [Act.put, List.setIfInBounds_toArray, List.set_cons_zero, List.set_cons_succ, i64_w, i32_w]
         rfl
        refine pure_ (i := 10) (N := some 56) (v := ?_) (a' := ?_) #[true, true, true, true, true, true, true, true, true, true, true, false, false, false, false, false, false, false, false, false, false, false, false, false, false, false, false, false, false] rfl rfl (any_of HT_.out (by kernel_rfl)) (fun _ _ _ h => h) (Or.inl ⟨by rfl, ?_⟩) ?_ ?_
        rotate_left
        ·intro w'
         go_simp
         with_reducible rfl
        rotate_left
        ·simp only [Act.put, List.setIfInBounds_toArray, List.set_cons_zero, List.set_cons_succ, i64_w, i32_w]
         rfl
        refine pure_ (i := 11) (N := some 57) (v := ?_) (a' := ?_) #[true, true, true, true, true, true, true, true, true, true, true, true, false, false, false, false, false, false, false, false, false, false, false, false, false, false, false, false, false] rfl rfl (any_of HT_.out (by kernel_rfl)) (fun _ _ _ h => h) (Or.inl ⟨by rfl, ?_⟩) ?_ ?_
        rotate_left
        ·intro w'
         go_simp
         with_reducible rfl
        rotate_left
        ·simp only [Act.put, List.setIfInBounds_toArray, List.set_cons_zero, List.set_cons_succ, i64_w, i32_w]
         rfl
        refine pure_ (i := 12) (N := some 58) (v := ?_) (a' := ?_) #[true, true, true, true, true, true, true, true, true, true, true, true, true, false, false, false, false, false, false, false, false, false, false, false, false, false, false, false, false] rfl rfl (any_of HT_.out (by kernel_rfl)) (fun _ _ _ h => h) (Or.inl ⟨by rfl, ?_⟩) ?_ ?_
        rotate_left
        ·intro w'
         go_simp
         with_reducible rfl
        rotate_left
        ·simp only [Act.put, List.setIfInBounds_toArray, List.set_cons_zero, List.set_cons_succ, i64_w, i32_w]
         rfl
        refine pure_ (i := 13) (N := some 59) (v := ?_) (a' := ?_) #[true, true, true, true, true, true, true, true, true, true, true, true, true, true, false, false, false, false, false, false, false, false, false, false, false, false, false, false, false] rfl rfl (any_of HT_.out (by kernel_rfl)) (fun _ _ _ h => h) (Or.inl ⟨by rfl, ?_⟩) ?_ ?_
        rotate_left
        ·intro w'
         go_simp
         with_reducible rfl
        rotate_left
        ·simp only [Act.put, List.setIfInBounds_toArray, List.set_cons_zero, List.set_cons_succ, i64_w, i32_w]
         rfl
        refine pure_ (i := 14) (N := some 60) (v := ?_) (a' := ?_) #[true, true, true, true, true, true, true, true, true, true, true, true, true, true, true, false, false, false, false, false, false, false, false, false, false, false, false, false, false] rfl rfl (any_of HT_.out (by kernel_rfl)) (fun _ _ _ h => h) (Or.inl ⟨by rfl, ?_⟩) ?_ ?_
        rotate_left
        ·intro w'
         go_simp
         with_reducible rfl
        rotate_left
        ·simp only [Act.put, List.setIfInBounds_toArray, List.set_cons_zero, List.set_cons_succ, i64_w, i32_w]
         rfl
        refine take_ (i := 15) (N := some 61) (v := ?_) (a' := ?_) #[true, true, true, true, true, true, true, true, true, true, true, true, true, true, true, true, false, false, false, false, false, false, false, false, false, false, false, false, false] rfl rfl (take_ofW HT_.out HW_.out (by kernel_rfl)) (fun _ _ _ h => h) (Or.inl ⟨by rfl, ?_⟩) hHeld ?_ ?_
        rotate_left
        ·rintro w' ⟨s0, s1, s2, s3⟩
         go_simp
         with_reducible rfl
        rotate_left
        ·simp only [Act.put, List.setIfInBounds_toArray, List.set_cons_zero, List.set_cons_succ, i64_w, i32_w]
         rfl
        refine take_ (i := 17) (N := some 63) (v := ?_) (a' := ?_) #[true, true, true, true, true, true, true, true, true, true, true, true, true, true, true, true, false, true, false, false, false, false, false, false, false, false, false, false, false] rfl rfl (take_ofW HT_.out HW_.out (by kernel_rfl)) (fun _ _ _ h => h) (Or.inl ⟨by rfl, ?_⟩) hHeld ?_ ?_
        rotate_left
        ·rintro w' ⟨s0, s1, s2, s3⟩
         go_simp
         with_reducible rfl
        rotate_left
        ·simp only [Act.put, List.setIfInBounds_toArray, List.set_cons_zero, List.set_cons_succ, i64_w, i32_w]
         rfl
        refine one_ (i := 16) (N := some 62) #[true, true, true, true, true, true, true, true, true, true, true, true, true, true, true, true, true, true, false, false, false, false, false, false, false, false, false, false, false] rfl rfl (one_of HT_.out (by kernel_rfl)) (by decide) (fun K hK => ?_)
        refine goes_ Try.func34 (by kernel_rfl) rfl #[.agg #[.int .i64 t854, .slice Ao39 t855.length co39], .string (⟨#[]⟩ : ByteArray)] (by rfl) rfl rfl (by (try simp only [List.map_toArray, List.map_cons, List.map_nil]); first | done | rfl | (simp only [List.length_drop, List.length_take]; rfl)) ?_
        with_reducible refine (disk_List.calls t854 (fun k_ => ((k_ ≠ gb845 ∧ k_ ≠ gb853) ∧ k_ ≠ gb858)) _ _ t855 (⟨#[]⟩ : ByteArray) t863 _ ?side1 A16.out).mono ?_
        (case side1 => exact HO857.out)
        rintro e w45 ⟨v864, rfl, ho0, hb⟩
        refine ⟨_, rfl, ?_⟩
        have n0_ := Aside0.mk (Kd.V_below (by (with_reducible repeat (first|apply vA_|apply vN_|apply vD_)); exact HO851.out) hb)
        have n1_ := Aside0.mk (Kd.V_below (by (with_reducible repeat (first|apply vA_|apply vN_|apply vD_)); exact HO857.out) hb)
        have n2_ := Aside0.mk (Kd.V_lower (Kd.V_mono (ok' := fun k_ => k_ ≠ gb845 ∧ k_ ≠ gb853 ∧ k_ ≠ gb858) ho0 (fun k_ hk_ => ⟨Or.elim hk_ (fun hs_ => hs_.1.1) (fun hn_ => (Kd.freshB (g := gb845) (by (with_reducible repeat (first|apply bN_|apply bD_|apply bA_)); exact BK845.out) k_ hn_)), Or.elim hk_ (fun hs_ => hs_.1.2) (fun hn_ => (Kd.freshB (g := gb853) (by (with_reducible repeat (first|apply bN_|apply bD_|apply bA_)); exact BK853.out) k_ hn_)), Or.elim hk_ (fun hs_ => hs_.2) (fun hn_ => (Kd.freshB (g := gb858) (by (with_reducible repeat (first|apply bN_|apply bD_|apply bA_)); exact BK858.out) k_ hn_))⟩)) (below_size (by repeat (first | (with_reducible first | exact HB.out | apply below_alloc | apply pw_below_drewN | apply below_drew1 | refine below_set ?_ GE845.out | refine below_set ?_ GE853.out | refine below_set ?_ GE858.out) | exact HB.out))))
        have n3_ := Aside0.mk (blk_below (g := gb845) (by (with_reducible repeat (first|apply bN_|apply bD_|apply bA_)); exact BK845.out) hb)
        have n4_ := Aside0.mk (blk_below (g := gb853) (by (with_reducible repeat (first|apply bN_|apply bD_|apply bA_)); exact BK853.out) hb)
        have n5_ := Aside0.mk (blk_below (g := gb858) (by (with_reducible repeat (first|apply bN_|apply bD_|apply bA_)); exact BK858.out) hb)
        have n6_ := Aside0.mk (below_step (by repeat (first | (with_reducible first | exact HB.out | apply below_alloc | apply pw_below_drewN | apply below_drew1 | refine below_set ?_ GE845.out | refine below_set ?_ GE853.out | refine below_set ?_ GE858.out) | exact HB.out)) hb)
        clear HO851
        clear HO857
        clear BK845
        clear BK853
        clear BK858
        clear HB
        have HO851 := n0_
        have HO857 := n1_
        have HO865 := n2_
        have BK845 := n3_
        have BK853 := n4_
        have BK858 := n5_
        have HB := n6_
        clear n0_ n1_ n2_ n3_ n4_ n5_ n6_
        (try clear hb)
        (try clear hb2)
        (try clear hk)
        (try clear hi)
        (try clear ho0)
        refine hK.out _ _ ⟨(blk_cell BK858.out 0).trans rfl, (blk_cell BK858.out 1).trans rfl, (blk_cell BK845.out 0).trans rfl, (blk_cell BK845.out 1).trans rfl⟩ (fun hHeld => ?_)
        clear hK K
        refine norm_ (a' := ?_) ?_ ?_
        rotate_left
        ·show Act.put _ (some 62) _ = _
         simp only [Act.put, List.setIfInBounds_toArray, List.set_cons_zero, List.set_cons_succ, i64_w, i32_w]
         rfl
        refine one_ (i := 18) (N := some 64) #[true, true, true, true, true, true, true, true, true, true, true, true, true, true, true, true, true, true, true, false, false, false, false, false, false, false, false, false, false] rfl rfl (one_of HT_.out (by kernel_rfl)) (by decide) (fun K hK => ?_)
        refine goes_ Try.func34 (by kernel_rfl) rfl #[.agg #[.int .i64 a0_0, .slice A0_1 l0_1.length c0_1], .string (⟨#[]⟩ : ByteArray)] (by rfl) rfl rfl (by (try simp only [List.map_toArray, List.map_cons, List.map_nil]); first | done | rfl | (simp only [List.length_drop, List.length_take]; rfl)) ?_
        with_reducible refine (disk_List.calls a0_0 (fun k_ => k_ < w.heap.size) _ _ l0_1 (⟨#[]⟩ : ByteArray) t866 _ ?side1 A17.out).mono ?_
        (case side1 => exact Kd.V_mk HC0_1.out (Kd.F_below (Kd.C_F k55_heap HR0_1.out) (by repeat (first | (with_reducible first | exact HB.out | apply below_alloc | apply pw_below_drewN | apply below_drew1 | refine below_set ?_ GE845.out | refine below_set ?_ GE853.out | refine below_set ?_ GE858.out) | exact HB.out))))
        rintro e w46 ⟨v867, rfl, ho0, hb⟩
        refine ⟨_, rfl, ?_⟩
        have n0_ := Aside0.mk (Kd.V_below (by (with_reducible repeat (first|apply vA_|apply vN_|apply vD_)); exact HO851.out) hb)
        have n1_ := Aside0.mk (Kd.V_below (by (with_reducible repeat (first|apply vA_|apply vN_|apply vD_)); exact HO857.out) hb)
        have n2_ := Aside0.mk (Kd.V_below (by (with_reducible repeat (first|apply vA_|apply vN_|apply vD_)); exact HO865.out) hb)
        have n3_ := Aside0.mk (Kd.V_lower (Kd.V_mono (ok' := fun k_ => k_ ≠ gb845 ∧ k_ ≠ gb853 ∧ k_ ≠ gb858) ho0 (fun k_ hk_ => ⟨Or.elim hk_ (fun hs_ => fun e_ => Nat.not_le.2 hs_ (by rw [e_]; exact GW845.out)) (fun hn_ => (Kd.freshB (g := gb845) (by (with_reducible repeat (first|apply bN_|apply bD_|apply bA_)); exact BK845.out) k_ hn_)), Or.elim hk_ (fun hs_ => fun e_ => Nat.not_le.2 hs_ (by rw [e_]; exact GW853.out)) (fun hn_ => (Kd.freshB (g := gb853) (by (with_reducible repeat (first|apply bN_|apply bD_|apply bA_)); exact BK853.out) k_ hn_)), Or.elim hk_ (fun hs_ => fun e_ => Nat.not_le.2 hs_ (by rw [e_]; exact GW858.out)) (fun hn_ => (Kd.freshB (g := gb858) (by (with_reducible repeat (first|apply bN_|apply bD_|apply bA_)); exact BK858.out) k_ hn_))⟩)) (below_size (by repeat (first | (with_reducible first | exact HB.out | apply below_alloc | apply pw_below_drewN | apply below_drew1 | refine below_set ?_ GE845.out | refine below_set ?_ GE853.out | refine below_set ?_ GE858.out) | exact HB.out))))
        have n4_ := Aside0.mk (blk_below (g := gb845) (by (with_reducible repeat (first|apply bN_|apply bD_|apply bA_)); exact BK845.out) hb)
        have n5_ := Aside0.mk (blk_below (g := gb853) (by (with_reducible repeat (first|apply bN_|apply bD_|apply bA_)); exact BK853.out) hb)
        have n6_ := Aside0.mk (blk_below (g := gb858) (by (with_reducible repeat (first|apply bN_|apply bD_|apply bA_)); exact BK858.out) hb)
        have n7_ := Aside0.mk (below_step (by repeat (first | (with_reducible first | exact HB.out | apply below_alloc | apply pw_below_drewN | apply below_drew1 | refine below_set ?_ GE845.out | refine below_set ?_ GE853.out | refine below_set ?_ GE858.out) | exact HB.out)) hb)
        clear HO851
        clear HO857
        clear HO865
        clear BK845
        clear BK853
        clear BK858
        clear HB
        have HO851 := n0_
        have HO857 := n1_
        have HO865 := n2_
        have HO868 := n3_
        have BK845 := n4_
        have BK853 := n5_
        have BK858 := n6_
        have HB := n7_
        clear n0_ n1_ n2_ n3_ n4_ n5_ n6_ n7_
        (try clear hb)
        (try clear hb2)
        (try clear hk)
        (try clear hi)
        (try clear ho0)
        obtain ⟨Ao47, co47, eo47⟩ := Kd.V_slice HO865.out
        (first | subst eo47 | (injection eo47 with f1_ f2_ f3_; have f4_ := f1_.symm; have f5_ := f3_.symm; clear f1_ f2_ f3_; subst f4_; subst f5_))
        obtain ⟨Ao48, co48, eo48⟩ := Kd.V_slice HO868.out
        (first | subst eo48 | (injection eo48 with f1_ f2_ f3_; have f4_ := f1_.symm; have f5_ := f3_.symm; clear f1_ f2_ f3_; subst f4_; subst f5_))
        refine hK.out _ _ ⟨(blk_cell BK858.out 0).trans rfl, (blk_cell BK858.out 1).trans rfl, (blk_cell BK845.out 0).trans rfl, (blk_cell BK845.out 1).trans rfl⟩ (fun hHeld => ?_)
        clear hK K
        refine norm_ (a' := ?_) ?_ ?_
        rotate_left
        ·show Act.put _ (some 64) _ = _
         simp only [Act.put, List.setIfInBounds_toArray, List.set_cons_zero, List.set_cons_succ, i64_w, i32_w]
         rfl
        refine one_ (i := 19) (N := some 65) #[true, true, true, true, true, true, true, true, true, true, true, true, true, true, true, true, true, true, true, true, false, false, false, false, false, false, false, false, false] rfl rfl (one_of HT_.out (by kernel_rfl)) (by decide) (fun K hK => ?_)
        refine goes_ Try.func33 (by kernel_rfl) rfl #[.slice Ao47 t863.length co47, .slice Ao48 t866.length co48] (by rfl) rfl rfl (by (try simp only [List.map_toArray, List.map_cons, List.map_nil]); first | done | rfl | (simp only [List.length_drop, List.length_take]; rfl)) ?_
        with_reducible refine (tallystickref15_Strings.calls k _ _ t863 _ _ t866 true _ ?side1 ?side2 ?side3 ?side4 A18.out).mono ?_
        (case side1 => repeat (first | exact (Kd.V_reads' HO865.out).2.2 | (with_reducible refine Kd.C_alloc ?_ _) | (with_reducible refine Kd.C_drewN ?_ _) | (with_reducible refine Kd.C_drew ?_)))
        (case side2 => exact (Kd.V_reads' HO865.out).2.1)
        (case side3 => repeat (first | exact (Kd.V_reads' HO868.out).2.2 | (with_reducible refine Kd.C_alloc ?_ _) | (with_reducible refine Kd.C_drewN ?_ _) | (with_reducible refine Kd.C_drew ?_)))
        (case side4 => exact (Kd.V_reads' HO868.out).2.1)
        rintro e w' ⟨rfl, ⟨nd, rfl⟩⟩
        refine ⟨_, rfl, ?_⟩
        refine hK.out _ _ ⟨(blk_cell BK858.out 0).trans rfl, (blk_cell BK858.out 1).trans rfl, (blk_cell BK845.out 0).trans rfl, (blk_cell BK845.out 1).trans rfl⟩ (fun hHeld => ?_)
        clear hK K
        refine norm_ (a' := ?_) ?_ ?_
        rotate_left
        ·show Act.put _ (some 65) _ = _
         simp only [Act.put, List.setIfInBounds_toArray, List.set_cons_zero, List.set_cons_succ, i64_w, i32_w]
         rfl
        refine pure_ (i := 20) (N := some 66) (v := ?_) (a' := ?_) #[true, true, true, true, true, true, true, true, true, true, true, true, true, true, true, true, true, true, true, true, true, false, false, false, false, false, false, false, false] rfl rfl (any_of HT_.out (by kernel_rfl)) (fun _ _ _ h => h) (Or.inl ⟨by rfl, ?_⟩) ?_ ?_
        rotate_left
        ·intro w'
         go_simp
         with_reducible rfl
        rotate_left
        ·simp only [Act.put, List.setIfInBounds_toArray, List.set_cons_zero, List.set_cons_succ, i64_w, i32_w]
         rfl
        refine pure_ (i := 21) (N := some 67) (v := ?_) (a' := ?_) #[true, true, true, true, true, true, true, true, true, true, true, true, true, true, true, true, true, true, true, true, true, true, false, false, false, false, false, false, false] rfl rfl (any_of HT_.out (by kernel_rfl)) (fun _ _ _ h => h) (Or.inl ⟨by rfl, ?_⟩) ?_ ?_
        rotate_left
        ·intro w'
         go_simp
         with_reducible rfl
        rotate_left
        ·simp only [Act.put, List.setIfInBounds_toArray, List.set_cons_zero, List.set_cons_succ, i64_w, i32_w]
         rfl
        refine pure_ (i := 23) (N := some 69) (v := ?_) (a' := ?_) #[true, true, true, true, true, true, true, true, true, true, true, true, true, true, true, true, true, true, true, true, true, true, false, true, false, false, false, false, false] rfl rfl (any_of HT_.out (by kernel_rfl)) (fun _ _ _ h => h) (Or.inl ⟨by rfl, ?_⟩) ?_ ?_
        rotate_left
        ·intro w'
         go_simp
         with_reducible rfl
        rotate_left
        ·simp only [Act.put, List.setIfInBounds_toArray, List.set_cons_zero, List.set_cons_succ, i64_w, i32_w]
         rfl
        refine take_ (i := 22) (N := some 68) (v := ?_) (a' := ?_) #[true, true, true, true, true, true, true, true, true, true, true, true, true, true, true, true, true, true, true, true, true, true, true, true, false, false, false, false, false] rfl rfl (take_ofW HT_.out HW_.out (by kernel_rfl)) (fun _ _ _ h => h) (Or.inl ⟨by rfl, ?_⟩) hHeld ?_ ?_
        rotate_left
        ·rintro w' ⟨s0, s1, s2, s3⟩
         go_simp
         with_reducible rfl
        rotate_left
        ·simp only [Act.put, List.setIfInBounds_toArray, List.set_cons_zero, List.set_cons_succ, i64_w, i32_w]
         rfl
        refine take_ (i := 25) (N := some 71) (v := ?_) (a' := ?_) #[true, true, true, true, true, true, true, true, true, true, true, true, true, true, true, true, true, true, true, true, true, true, true, true, false, true, false, false, false] rfl rfl (take_ofW HT_.out HW_.out (by kernel_rfl)) (fun _ _ _ h => h) (Or.inl ⟨by rfl, ?_⟩) hHeld ?_ ?_
        rotate_left
        ·rintro w' ⟨s0, s1, s2, s3⟩
         go_simp
         with_reducible rfl
        rotate_left
        ·simp only [Act.put, List.setIfInBounds_toArray, List.set_cons_zero, List.set_cons_succ, i64_w, i32_w]
         rfl
        refine one_ (i := 24) (N := some 70) #[true, true, true, true, true, true, true, true, true, true, true, true, true, true, true, true, true, true, true, true, true, true, true, true, true, true, false, false, false] rfl rfl (one_of HT_.out (by kernel_rfl)) (by decide) (fun K hK => ?_)
        refine goes_ Try.func24 (by kernel_rfl) rfl #[.agg #[.int .i64 t854, .slice Ao39 t855.length co39], .slice A2 l2.length c2] (by rfl) rfl rfl (by (try simp only [List.map_toArray, List.map_cons, List.map_nil]); first | done | rfl | (simp only [List.length_drop, List.length_take]; rfl)) ?_
        with_reducible refine (disk_Crash.calls t854 (fun k_ => ((k_ ≠ gb845 ∧ k_ ≠ gb853) ∧ k_ ≠ gb858)) _ _ t855 (fun k_ => k_ < w.heap.size) _ _ l2 t870 t871 _ ?side1 ?side2 A20.out).mono ?_
        (case side1 => exact HO857.out)
        (case side2 => exact Kd.V_mk HC2.out (Kd.F_below (Kd.C_F (Kd.heap_int .u64) HR2.out) (by repeat (first | (with_reducible first | exact HB.out | apply below_alloc | apply pw_below_drewN | apply below_drew1 | refine below_set ?_ GE845.out | refine below_set ?_ GE853.out | refine below_set ?_ GE858.out) | exact HB.out))))
        rintro e w49 ⟨v872, rfl, ho0, hb⟩
        refine ⟨_, rfl, ?_⟩
        have n0_ := Aside0.mk (Kd.V_below (by (with_reducible repeat (first|apply vA_|apply vN_|apply vD_)); exact HO851.out) hb)
        have n1_ := Aside0.mk (Kd.V_below (by (with_reducible repeat (first|apply vA_|apply vN_|apply vD_)); exact HO857.out) hb)
        have n2_ := Aside0.mk (Kd.V_below (by (with_reducible repeat (first|apply vA_|apply vN_|apply vD_)); exact HO865.out) hb)
        have n3_ := Aside0.mk (Kd.V_below (by (with_reducible repeat (first|apply vA_|apply vN_|apply vD_)); exact HO868.out) hb)
        have n4_ := Aside0.mk (Kd.V_lower (Kd.V_mono (ok' := fun k_ => k_ ≠ gb845 ∧ k_ ≠ gb853 ∧ k_ ≠ gb858) ho0 (fun k_ hk_ => ⟨Or.elim hk_ (fun hs_ => Or.elim hs_ (fun hs_ => hs_.1.1) (fun hs_ => fun e_ => Nat.not_le.2 hs_ (by rw [e_]; exact GW845.out))) (fun hn_ => (Kd.freshB (g := gb845) (by (with_reducible repeat (first|apply bN_|apply bD_|apply bA_)); exact BK845.out) k_ hn_)), Or.elim hk_ (fun hs_ => Or.elim hs_ (fun hs_ => hs_.1.2) (fun hs_ => fun e_ => Nat.not_le.2 hs_ (by rw [e_]; exact GW853.out))) (fun hn_ => (Kd.freshB (g := gb853) (by (with_reducible repeat (first|apply bN_|apply bD_|apply bA_)); exact BK853.out) k_ hn_)), Or.elim hk_ (fun hs_ => Or.elim hs_ (fun hs_ => hs_.2) (fun hs_ => fun e_ => Nat.not_le.2 hs_ (by rw [e_]; exact GW858.out))) (fun hn_ => (Kd.freshB (g := gb858) (by (with_reducible repeat (first|apply bN_|apply bD_|apply bA_)); exact BK858.out) k_ hn_))⟩)) (below_size (by repeat (first | (with_reducible first | exact HB.out | apply below_alloc | apply pw_below_drewN | apply below_drew1 | refine below_set ?_ GE845.out | refine below_set ?_ GE853.out | refine below_set ?_ GE858.out) | exact HB.out))))
        have n5_ := Aside0.mk (blk_below (g := gb845) (by (with_reducible repeat (first|apply bN_|apply bD_|apply bA_)); exact BK845.out) hb)
        have n6_ := Aside0.mk (blk_below (g := gb853) (by (with_reducible repeat (first|apply bN_|apply bD_|apply bA_)); exact BK853.out) hb)
        have n7_ := Aside0.mk (blk_below (g := gb858) (by (with_reducible repeat (first|apply bN_|apply bD_|apply bA_)); exact BK858.out) hb)
        have n8_ := Aside0.mk (below_step (by repeat (first | (with_reducible first | exact HB.out | apply below_alloc | apply pw_below_drewN | apply below_drew1 | refine below_set ?_ GE845.out | refine below_set ?_ GE853.out | refine below_set ?_ GE858.out) | exact HB.out)) hb)
        clear HO851
        clear HO857
        clear HO865
        clear HO868
        clear BK845
        clear BK853
        clear BK858
        clear HB
        have HO851 := n0_
        have HO857 := n1_
        have HO865 := n2_
        have HO868 := n3_
        have HO873 := n4_
        have BK845 := n5_
        have BK853 := n6_
        have BK858 := n7_
        have HB := n8_
        clear n0_ n1_ n2_ n3_ n4_ n5_ n6_ n7_ n8_
        (try clear hb)
        (try clear hb2)
        (try clear hk)
        (try clear hi)
        (try clear ho0)
        obtain ⟨Ao50, co50, eo50⟩ := Kd.V_slice HO873.out
        (first | subst eo50 | (injection eo50 with f1_ f2_ f3_; have f4_ := f1_.symm; have f5_ := f3_.symm; clear f1_ f2_ f3_; subst f4_; subst f5_))
        refine hK.out _ _ ⟨(blk_cell BK858.out 0).trans rfl, (blk_cell BK858.out 1).trans rfl, (blk_cell BK845.out 0).trans rfl, (blk_cell BK845.out 1).trans rfl⟩ (fun hHeld => ?_)
        clear hK K
        refine norm_ (a' := ?_) ?_ ?_
        rotate_left
        ·show Act.put _ (some 70) _ = _
         simp only [Act.put, List.setIfInBounds_toArray, List.set_cons_zero, List.set_cons_succ, i64_w, i32_w]
         rfl
        refine one_ (i := 26) (N := some 72) #[true, true, true, true, true, true, true, true, true, true, true, true, true, true, true, true, true, true, true, true, true, true, true, true, true, true, true, false, false] rfl rfl (one_of HT_.out (by kernel_rfl)) (by decide) (fun K hK => ?_)
        refine goes_ Try.func26 (by kernel_rfl) rfl #[.agg #[.int .i64 t870, .slice Ao50 t871.length co50], .agg #[.int .i64 t854, .slice Ao39 t855.length co39]] (by rfl) rfl rfl (by (try simp only [List.map_toArray, List.map_cons, List.map_nil]); first | done | rfl | (simp only [List.length_drop, List.length_take]; rfl)) ?_
        with_reducible refine (disk_Same.calls k t870 _ _ t871 t854 _ _ t855 t874 _ ?side1 ?side2 ?side3 ?side4 A21.out).mono ?_
        (case side1 => repeat (first | exact (Kd.V_reads' HO873.out).2.2 | (with_reducible refine Kd.C_alloc ?_ _) | (with_reducible refine Kd.C_drewN ?_ _) | (with_reducible refine Kd.C_drew ?_)))
        (case side2 => exact (Kd.V_reads' HO873.out).2.1)
        (case side3 => repeat (first | exact (Kd.V_reads' HO857.out).2.2 | (with_reducible refine Kd.C_alloc ?_ _) | (with_reducible refine Kd.C_drewN ?_ _) | (with_reducible refine Kd.C_drew ?_)))
        (case side4 => exact (Kd.V_reads' HO857.out).2.1)
        rintro e w51 ⟨rfl, hb⟩
        refine ⟨_, rfl, ?_⟩
        have n0_ := Aside0.mk (Kd.V_below (by (with_reducible repeat (first|apply vA_|apply vN_|apply vD_)); exact HO851.out) hb)
        have n1_ := Aside0.mk (Kd.V_below (by (with_reducible repeat (first|apply vA_|apply vN_|apply vD_)); exact HO857.out) hb)
        have n2_ := Aside0.mk (Kd.V_below (by (with_reducible repeat (first|apply vA_|apply vN_|apply vD_)); exact HO865.out) hb)
        have n3_ := Aside0.mk (Kd.V_below (by (with_reducible repeat (first|apply vA_|apply vN_|apply vD_)); exact HO868.out) hb)
        have n4_ := Aside0.mk (Kd.V_below (by (with_reducible repeat (first|apply vA_|apply vN_|apply vD_)); exact HO873.out) hb)
        have n5_ := Aside0.mk (blk_below (g := gb845) (by (with_reducible repeat (first|apply bN_|apply bD_|apply bA_)); exact BK845.out) hb)
        have n6_ := Aside0.mk (blk_below (g := gb853) (by (with_reducible repeat (first|apply bN_|apply bD_|apply bA_)); exact BK853.out) hb)
        have n7_ := Aside0.mk (blk_below (g := gb858) (by (with_reducible repeat (first|apply bN_|apply bD_|apply bA_)); exact BK858.out) hb)
        have n8_ := Aside0.mk (below_step (by repeat (first | (with_reducible first | exact HB.out | apply below_alloc | apply pw_below_drewN | apply below_drew1 | refine below_set ?_ GE845.out | refine below_set ?_ GE853.out | refine below_set ?_ GE858.out) | exact HB.out)) hb)
        clear HO851
        clear HO857
        clear HO865
        clear HO868
        clear HO873
        clear BK845
        clear BK853
        clear BK858
        clear HB
        have HO851 := n0_
        have HO857 := n1_
        have HO865 := n2_
        have HO868 := n3_
        have HO873 := n4_
        have BK845 := n5_
        have BK853 := n6_
        have BK858 := n7_
        have HB := n8_
        clear n0_ n1_ n2_ n3_ n4_ n5_ n6_ n7_ n8_
        (try clear hb)
        (try clear hb2)
        (try clear hk)
        (try clear hi)
        refine hK.out _ _ ⟨(blk_cell BK858.out 0).trans rfl, (blk_cell BK858.out 1).trans rfl, (blk_cell BK845.out 0).trans rfl, (blk_cell BK845.out 1).trans rfl⟩ (fun hHeld => ?_)
        clear hK K
        refine norm_ (a' := ?_) ?_ ?_
        rotate_left
        ·show Act.put _ (some 72) _ = _
         simp only [Act.put, List.setIfInBounds_toArray, List.set_cons_zero, List.set_cons_succ, i64_w, i32_w]
         rfl
        refine pure_ (i := 27) (N := some 73) (v := ?_) (a' := ?_) #[true, true, true, true, true, true, true, true, true, true, true, true, true, true, true, true, true, true, true, true, true, true, true, true, true, true, true, true, false] rfl rfl (any_of HT_.out (by kernel_rfl)) (fun _ _ _ h => h) (Or.inl ⟨by rfl, ?_⟩) ?_ ?_
        rotate_left
        ·intro w'
         go_simp
         with_reducible rfl
        rotate_left
        ·simp only [Act.put, List.setIfInBounds_toArray, List.set_cons_zero, List.set_cons_succ, i64_w, i32_w]
         rfl
        refine pure_ (i := 28) (N := some 6) (v := ?_) (a' := ?_) #[true, true, true, true, true, true, true, true, true, true, true, true, true, true, true, true, true, true, true, true, true, true, true, true, true, true, true, true, true] rfl rfl (any_of HT_.out (by kernel_rfl)) (fun _ _ _ h => h) (Or.inl ⟨by rfl, ?_⟩) ?_ ?_
        rotate_left
        ·intro w'
         go_simp
         with_reducible rfl
        rotate_left
        ·simp only [Act.put, List.setIfInBounds_toArray, List.set_cons_zero, List.set_cons_succ, i64_w, i32_w]
         rfl
        refine done_ (done_of HT_.out (by kernel_rfl)) ?_
        try go_wp2
        go_ret
        exact ⟨by first | rfl | (simp [errW_none, errW_some] <;> rfl) | (simp [*, errW_none, errW_some] <;> rfl), by repeat (first | (with_reducible first | exact HB.out | apply below_alloc | apply pw_below_drewN | apply below_drew1 | refine below_set ?_ GE845.out | refine below_set ?_ GE853.out | refine below_set ?_ GE858.out) | exact HB.out)⟩
       ·replace c19 := Bool.eq_false_iff.mpr c19
        subst c19
        have H1 : (some false) = some r := by rw [if_neg (show ¬ (false = true) by decide)] at H; exact H
        clear H
        have H := H1
        clear H1
        obtain rfl := Option.some.inj H
        go_enter Try.func11, Try.ntmps11
        try go_wp2_with (first | ((with_reducible refine gate_dst (N := 3) rfl ?_); refine box_event ?hg (N := 3) ?hd (cs := #[.int .i64 a0_0, .slice A0_1 l0_1.length c0_1]) (t := 46) ?hr ?_; (case hd => rfl); (case hg => rfl); (case hr => first | (go_simp; done) | (go_simp; rfl)); intro gb845 hg w52 hbox hb; have n0_ := Aside0.mk (below_step (by repeat (first | (with_reducible first | exact HB.out | apply below_alloc | apply pw_below_drewN | apply below_drew1) | exact HB.out)) hb); have n1_ := Aside0.mk (hbox); have n2_ := Aside0.mk ((by rw [hg]; exact (below_size (by repeat (first | (with_reducible first | exact HB.out | apply below_alloc | apply pw_below_drewN | apply below_drew1) | exact HB.out))) : w.heap.size ≤ gb845)); have n3_ := Aside0.mk ((by rw [hg]; exact (below_size (by repeat (first | (with_reducible first | exact HB.out | apply below_alloc | apply pw_below_drewN | apply below_drew1) | exact HB.out))) : w.heap.size ≤ gb845)); clear HB; have HB := n0_; have BK845 := n1_; have GW845 := n2_; have GE845 := n3_; clear n0_ n1_ n2_ n3_; clear hb hbox hg) | ((with_reducible refine gate_callee (f := 20) rfl ?_); refine goesL_ (some 16) rfl rfl Try.func20 (by kernel_rfl) rfl #[] rfl (by (try simp only [List.map_toArray, List.map_cons, List.map_nil]); first | done | rfl | (simp only [List.length_drop, List.length_take]; rfl)) ?_; (with_reducible refine (tallysticklaw15_shown.calls k  true _ A4.out).mono ?_); rintro e w53 ⟨rfl, hb⟩; refine ⟨_, rfl, ?_⟩; have n0_ := Aside0.mk (blk_below (g := gb845) (by (with_reducible repeat (first|apply bN_|apply bD_|apply bA_)); exact BK845.out) hb); have n1_ := Aside0.mk (below_step (by repeat (first | (with_reducible first | exact HB.out | apply below_alloc | apply pw_below_drewN | apply below_drew1 | refine below_set ?_ GE845.out) | exact HB.out)) hb); clear BK845; clear HB; have BK845 := n0_; have HB := n1_; clear n0_ n1_; (try clear hb); (try clear hb2); (try clear hk); (try clear hi); have hcz54_0 : w53.cell? ⟨gb845, 0, none⟩ = some (.int .i64 a0_0) := (blk_cell BK845.out 0).trans rfl; have hcz54_1 : w53.cell? ⟨gb845, 1, none⟩ = some (.slice A0_1 l0_1.length c0_1) := (blk_cell BK845.out 1).trans rfl; have hfz54_0 := blk_frozen BK845.out 0; have hfz54_1 := blk_frozen BK845.out 1) | ((with_reducible refine gate_callee (f := 21) rfl ?_); refine goesL_ (some 18) rfl rfl Try.func21 (by kernel_rfl) rfl #[.agg #[.int .i64 a0_0, .slice A0_1 l0_1.length c0_1]] rfl (by (try simp only [List.map_toArray, List.map_cons, List.map_nil]); first | done | rfl | (simp only [List.length_drop, List.length_take]; rfl)) ?_; (with_reducible refine (tallystickref15_Right.calls k a0_0 _ _ l0_1 true _ ?side1 ?side2 A5.out).mono ?_); (case side1 => repeat (first | exact (Kd.C_below HR0_1.out HB.out) | (with_reducible refine Kd.C_alloc ?_ _) | (with_reducible refine Kd.C_drewN ?_ _) | (with_reducible refine Kd.C_drew ?_))); (case side2 => exact HC0_1.out); rintro e w55 ⟨rfl, hb⟩; refine ⟨_, rfl, ?_⟩; have n0_ := Aside0.mk (blk_below (g := gb845) (by (with_reducible repeat (first|apply bN_|apply bD_|apply bA_)); exact BK845.out) hb); have n1_ := Aside0.mk (below_step (by repeat (first | (with_reducible first | exact HB.out | apply below_alloc | apply pw_below_drewN | apply below_drew1 | refine below_set ?_ GE845.out) | exact HB.out)) hb); clear BK845; clear HB; have BK845 := n0_; have HB := n1_; clear n0_ n1_; (try clear hb); (try clear hb2); (try clear hk); (try clear hi); have hcz56_0 : w55.cell? ⟨gb845, 0, none⟩ = some (.int .i64 a0_0) := (blk_cell BK845.out 0).trans rfl; have hcz56_1 : w55.cell? ⟨gb845, 1, none⟩ = some (.slice A0_1 l0_1.length c0_1) := (blk_cell BK845.out 1).trans rfl; have hfz56_0 := blk_frozen BK845.out 0; have hfz56_1 := blk_frozen BK845.out 1) | ((with_reducible refine gate_callee (f := 32) rfl ?_); refine goesL_ (some 25) rfl rfl Try.func32 (by kernel_rfl) rfl #[.agg #[.int .i64 a0_0, .slice A0_1 l0_1.length c0_1], .string a1] rfl (by (try simp only [List.map_toArray, List.map_cons, List.map_nil]); first | done | rfl | (simp only [List.length_drop, List.length_take]; rfl)) ?_; (with_reducible refine (disk_Sync.calls a0_0 (fun k_ => k_ < w.heap.size) _ _ l0_1 a1 t848 t849 t852 _ ?side1 A7.out).mono ?_); (case side1 => exact Kd.V_mk HC0_1.out (Kd.F_below (Kd.C_F k55_heap HR0_1.out) (by repeat (first | (with_reducible first | exact HB.out | apply below_alloc | apply pw_below_drewN | apply below_drew1 | refine below_set ?_ GE845.out) | exact HB.out)))); rintro e w57 ⟨v850, rfl, ho0, hb⟩; refine ⟨_, rfl, ?_⟩; have n0_ := Aside0.mk (Kd.V_lower (Kd.V_mono (ok' := fun k_ => k_ ≠ gb845) ho0 (fun k_ hk_ => Or.elim hk_ (fun hs_ => fun e_ => Nat.not_le.2 hs_ (by rw [e_]; exact GW845.out)) (fun hn_ => (Kd.freshB (g := gb845) (by (with_reducible repeat (first|apply bN_|apply bD_|apply bA_)); exact BK845.out) k_ hn_)))) (below_size (by repeat (first | (with_reducible first | exact HB.out | apply below_alloc | apply pw_below_drewN | apply below_drew1 | refine below_set ?_ GE845.out) | exact HB.out)))); have n1_ := Aside0.mk (blk_below (g := gb845) (by (with_reducible repeat (first|apply bN_|apply bD_|apply bA_)); exact BK845.out) hb); have n2_ := Aside0.mk (below_step (by repeat (first | (with_reducible first | exact HB.out | apply below_alloc | apply pw_below_drewN | apply below_drew1 | refine below_set ?_ GE845.out) | exact HB.out)) hb); clear BK845; clear HB; have HO851 := n0_; have BK845 := n1_; have HB := n2_; clear n0_ n1_ n2_; (try clear hb); (try clear hb2); (try clear hk); (try clear hi); (try clear ho0)) | ((with_reducible refine gate_dst (N := 9) rfl ?_); refine box_event ?hg (N := 9) ?hd (cs := #[.int .i64 0, .slice none 0 0]) (t := 46) ?hr ?_; (case hd => rfl); (case hg => rfl); (case hr => first | (go_simp; done) | (go_simp; rfl)); intro gb853 hg w58 hbox hb; have n0_ := Aside0.mk (Kd.V_below (Kd.V_elderB (by (with_reducible repeat (first|apply vA_|apply vN_|apply vD_)); exact HO851.out) gb853 (Nat.le_of_eq hg.symm)) hb); have n1_ := Aside0.mk (blk_below (g := gb845) (by (with_reducible repeat (first|apply bN_|apply bD_|apply bA_)); exact BK845.out) hb); have n2_ := Aside0.mk (below_step (by repeat (first | (with_reducible first | exact HB.out | apply below_alloc | apply pw_below_drewN | apply below_drew1 | refine below_set ?_ GE845.out) | exact HB.out)) hb); have n3_ := Aside0.mk (hbox); have n4_ := Aside0.mk ((by rw [hg]; exact (below_size (by repeat (first | (with_reducible first | exact HB.out | apply below_alloc | apply pw_below_drewN | apply below_drew1 | refine below_set ?_ GE845.out) | exact HB.out))) : w.heap.size ≤ gb853)); have n5_ := Aside0.mk ((by rw [hg]; exact (below_size (by repeat (first | (with_reducible first | exact HB.out | apply below_alloc | apply pw_below_drewN | apply below_drew1 | refine below_set ?_ GE845.out) | exact HB.out))) : w.heap.size ≤ gb853)); have n6_ := Aside0.mk ((by rw [hg]; exact Nat.ne_of_lt (blk_lt (g := gb845) (by (with_reducible repeat (first|apply bN_|apply bD_|apply bA_)); exact BK845.out)) : gb845 ≠ gb853)); have n7_ := Aside0.mk ((by rw [hg]; exact Nat.ne_of_gt (blk_lt (g := gb845) (by (with_reducible repeat (first|apply bN_|apply bD_|apply bA_)); exact BK845.out)) : gb853 ≠ gb845)); clear HO851; clear BK845; clear HB; have HO851 := n0_; have BK845 := n1_; have HB := n2_; have BK853 := n3_; have GW853 := n4_; have GE853 := n5_; have NB845_853 := n6_; have NB853_845 := n7_; clear n0_ n1_ n2_ n3_ n4_ n5_ n6_ n7_; clear hb hbox hg; have hnb59 := NB853_845.out; have hnc59 := NB845_853.out; have hcz60_0 : w58.cell? ⟨gb853, 0, none⟩ = some (.int .i64 0) := (blk_cell BK853.out 0).trans rfl; have hcz60_1 : w58.cell? ⟨gb853, 1, none⟩ = some (.slice none 0 0) := (blk_cell BK853.out 1).trans rfl; have hfz60_0 := blk_frozen BK853.out 0; have hfz60_1 := blk_frozen BK853.out 1; obtain ⟨Ao61, co61, eo61⟩ := Kd.V_slice HO851.out; subst eo61) | ((with_reducible refine gate_store (t := 46) (p := 9) rfl ?_); refine store_event (t := 46) (p := 9) (v := ?vo_w62) (w1 := ((w58.setCell ⟨gb853, 0, none⟩ (.int .i64 t848)).setCell ⟨gb853, 1, none⟩ (.slice Ao61 t849.length co61))) ?hg ?ho ?hn ?hr ?_; (case ho => rfl); (case hg => rfl); (case hn => rfl); (case hr => first | (go_simp; done) | (go_simp; rfl)); intro w62 hw; have n0_ : Aside0 (Kd.V k55 55 w62 w.heap.size (fun k_ => k_ ≠ gb845 ∧ k_ ≠ gb853) (.slice Ao61 t849.length co61) t849) := ⟨(by rw [hw]; exact (by (with_reducible repeat (first|apply vA_|apply vN_|apply vD_)); exact Kd.V_mono (Kd.V_far (p := ⟨gb853, 1, none⟩) (Kd.V_far (p := ⟨gb853, 0, none⟩) (Kd.V_mono HO851.out (fun k_ hk => (⟨hk, hk.2⟩ : _ ∧ k_ ≠ gb853))) (fun _ hk => hk.2) (.int .i64 t848)) (fun _ hk => hk.2) (.slice Ao61 t849.length co61)) (fun _ hk => ⟨hk.1.1, hk.1.2⟩)))⟩; have n1_ : Aside0 (w62.heap[gb845]? = some (.cells #[.int .i64 a0_0, .slice A0_1 l0_1.length c0_1] 46 (0, 0))) := ⟨(by rw [hw]; exact (by (with_reducible repeat (first|apply bN_|apply bD_|apply bA_)); refine blk_far ?_ NB845_853.out _; (with_reducible repeat (first|apply bN_|apply bD_|apply bA_)); refine blk_far ?_ NB845_853.out _; (with_reducible repeat (first|apply bN_|apply bD_|apply bA_)); exact BK845.out))⟩; have n2_ : Aside0 (w62.heap[gb853]? = some (.cells #[.int .i64 t848, .slice Ao61 t849.length co61] 46 (0, 0))) := ⟨(by rw [hw]; exact (by (with_reducible repeat (first|apply bN_|apply bD_|apply bA_)); refine blk_put (cs := #[.int .i64 t848, .slice none 0 0]) ?_ 1 _ rfl; (with_reducible repeat (first|apply bN_|apply bD_|apply bA_)); refine blk_put (cs := #[.int .i64 0, .slice none 0 0]) ?_ 0 _ rfl; (with_reducible repeat (first|apply bN_|apply bD_|apply bA_)); exact BK853.out))⟩; have n3_ : Aside0 (Below w.heap.size w w62) := ⟨(by rw [hw]; exact (by repeat (first | (with_reducible first | exact HB.out | apply below_alloc | apply pw_below_drewN | apply below_drew1 | refine below_set ?_ GE845.out | refine below_set ?_ GE853.out) | exact HB.out)))⟩; clear hw; clear HO851; clear BK845; clear BK853; clear HB; have HO851 := n0_; have BK845 := n1_; have BK853 := n2_; have HB := n3_; clear n0_ n1_ n2_ n3_; have hcz63_0 : w62.cell? ⟨gb853, 0, none⟩ = some (.int .i64 t848) := (blk_cell BK853.out 0).trans rfl; have hcz63_1 : w62.cell? ⟨gb853, 1, none⟩ = some (.slice Ao61 t849.length co61) := (blk_cell BK853.out 1).trans rfl; have hfz63_0 := blk_frozen BK853.out 0; have hfz63_1 := blk_frozen BK853.out 1) | ((with_reducible refine gate_callee (f := 24) rfl ?_); refine goesL_ (some 33) rfl rfl Try.func24 (by kernel_rfl) rfl #[.agg #[.int .i64 t848, .slice Ao61 t849.length co61], .slice A2 l2.length c2] rfl (by (try simp only [List.map_toArray, List.map_cons, List.map_nil]); first | done | rfl | (simp only [List.length_drop, List.length_take]; rfl)) ?_; (with_reducible refine (disk_Crash.calls t848 (fun k_ => (k_ ≠ gb845 ∧ k_ ≠ gb853)) _ _ t849 (fun k_ => k_ < w.heap.size) _ _ l2 t854 t855 _ ?side1 ?side2 A9.out).mono ?_); (case side1 => exact HO851.out); (case side2 => exact Kd.V_mk HC2.out (Kd.F_below (Kd.C_F (Kd.heap_int .u64) HR2.out) (by repeat (first | (with_reducible first | exact HB.out | apply below_alloc | apply pw_below_drewN | apply below_drew1 | refine below_set ?_ GE845.out | refine below_set ?_ GE853.out) | exact HB.out)))); rintro e w64 ⟨v856, rfl, ho0, hb⟩; refine ⟨_, rfl, ?_⟩; have n0_ := Aside0.mk (Kd.V_below (by (with_reducible repeat (first|apply vA_|apply vN_|apply vD_)); exact HO851.out) hb); have n1_ := Aside0.mk (Kd.V_lower (Kd.V_mono (ok' := fun k_ => k_ ≠ gb845 ∧ k_ ≠ gb853) ho0 (fun k_ hk_ => ⟨Or.elim hk_ (fun hs_ => Or.elim hs_ (fun hs_ => hs_.1) (fun hs_ => fun e_ => Nat.not_le.2 hs_ (by rw [e_]; exact GW845.out))) (fun hn_ => (Kd.freshB (g := gb845) (by (with_reducible repeat (first|apply bN_|apply bD_|apply bA_)); exact BK845.out) k_ hn_)), Or.elim hk_ (fun hs_ => Or.elim hs_ (fun hs_ => hs_.2) (fun hs_ => fun e_ => Nat.not_le.2 hs_ (by rw [e_]; exact GW853.out))) (fun hn_ => (Kd.freshB (g := gb853) (by (with_reducible repeat (first|apply bN_|apply bD_|apply bA_)); exact BK853.out) k_ hn_))⟩)) (below_size (by repeat (first | (with_reducible first | exact HB.out | apply below_alloc | apply pw_below_drewN | apply below_drew1 | refine below_set ?_ GE845.out | refine below_set ?_ GE853.out) | exact HB.out)))); have n2_ := Aside0.mk (blk_below (g := gb845) (by (with_reducible repeat (first|apply bN_|apply bD_|apply bA_)); exact BK845.out) hb); have n3_ := Aside0.mk (blk_below (g := gb853) (by (with_reducible repeat (first|apply bN_|apply bD_|apply bA_)); exact BK853.out) hb); have n4_ := Aside0.mk (below_step (by repeat (first | (with_reducible first | exact HB.out | apply below_alloc | apply pw_below_drewN | apply below_drew1 | refine below_set ?_ GE845.out | refine below_set ?_ GE853.out) | exact HB.out)) hb); clear HO851; clear BK845; clear BK853; clear HB; have HO851 := n0_; have HO857 := n1_; have BK845 := n2_; have BK853 := n3_; have HB := n4_; clear n0_ n1_ n2_ n3_ n4_; (try clear hb); (try clear hb2); (try clear hk); (try clear hi); (try clear ho0)) | ((with_reducible refine gate_dst (N := 11) rfl ?_); refine box_event ?hg (N := 11) ?hd (cs := #[.int .i64 0, .slice none 0 0]) (t := 46) ?hr ?_; (case hd => rfl); (case hg => rfl); (case hr => first | (go_simp; done) | (go_simp; rfl)); intro gb858 hg w65 hbox hb; have n0_ := Aside0.mk (Kd.V_below (Kd.V_elderB (by (with_reducible repeat (first|apply vA_|apply vN_|apply vD_)); exact HO851.out) gb858 (Nat.le_of_eq hg.symm)) hb); have n1_ := Aside0.mk (Kd.V_below (Kd.V_elderB (by (with_reducible repeat (first|apply vA_|apply vN_|apply vD_)); exact HO857.out) gb858 (Nat.le_of_eq hg.symm)) hb); have n2_ := Aside0.mk (blk_below (g := gb845) (by (with_reducible repeat (first|apply bN_|apply bD_|apply bA_)); exact BK845.out) hb); have n3_ := Aside0.mk (blk_below (g := gb853) (by (with_reducible repeat (first|apply bN_|apply bD_|apply bA_)); exact BK853.out) hb); have n4_ := Aside0.mk (below_step (by repeat (first | (with_reducible first | exact HB.out | apply below_alloc | apply pw_below_drewN | apply below_drew1 | refine below_set ?_ GE845.out | refine below_set ?_ GE853.out) | exact HB.out)) hb); have n5_ := Aside0.mk (hbox); have n6_ := Aside0.mk ((by rw [hg]; exact (below_size (by repeat (first | (with_reducible first | exact HB.out | apply below_alloc | apply pw_below_drewN | apply below_drew1 | refine below_set ?_ GE845.out | refine below_set ?_ GE853.out) | exact HB.out))) : w.heap.size ≤ gb858)); have n7_ := Aside0.mk ((by rw [hg]; exact (below_size (by repeat (first | (with_reducible first | exact HB.out | apply below_alloc | apply pw_below_drewN | apply below_drew1 | refine below_set ?_ GE845.out | refine below_set ?_ GE853.out) | exact HB.out))) : w.heap.size ≤ gb858)); have n8_ := Aside0.mk ((by rw [hg]; exact Nat.ne_of_lt (blk_lt (g := gb845) (by (with_reducible repeat (first|apply bN_|apply bD_|apply bA_)); exact BK845.out)) : gb845 ≠ gb858)); have n9_ := Aside0.mk ((by rw [hg]; exact Nat.ne_of_gt (blk_lt (g := gb845) (by (with_reducible repeat (first|apply bN_|apply bD_|apply bA_)); exact BK845.out)) : gb858 ≠ gb845)); have n10_ := Aside0.mk ((by rw [hg]; exact Nat.ne_of_lt (blk_lt (g := gb853) (by (with_reducible repeat (first|apply bN_|apply bD_|apply bA_)); exact BK853.out)) : gb853 ≠ gb858)); have n11_ := Aside0.mk ((by rw [hg]; exact Nat.ne_of_gt (blk_lt (g := gb853) (by (with_reducible repeat (first|apply bN_|apply bD_|apply bA_)); exact BK853.out)) : gb858 ≠ gb853)); clear HO851; clear HO857; clear BK845; clear BK853; clear HB; have HO851 := n0_; have HO857 := n1_; have BK845 := n2_; have BK853 := n3_; have HB := n4_; have BK858 := n5_; have GW858 := n6_; have GE858 := n7_; have NB845_858 := n8_; have NB858_845 := n9_; have NB853_858 := n10_; have NB858_853 := n11_; clear n0_ n1_ n2_ n3_ n4_ n5_ n6_ n7_ n8_ n9_ n10_ n11_; clear hb hbox hg; have hnb66 := NB858_845.out; have hnc66 := NB845_858.out; have hnb67 := NB858_853.out; have hnc67 := NB853_858.out; have hcz68_0 : w65.cell? ⟨gb858, 0, none⟩ = some (.int .i64 0) := (blk_cell BK858.out 0).trans rfl; have hcz68_1 : w65.cell? ⟨gb858, 1, none⟩ = some (.slice none 0 0) := (blk_cell BK858.out 1).trans rfl; have hfz68_0 := blk_frozen BK858.out 0; have hfz68_1 := blk_frozen BK858.out 1; obtain ⟨Ao69, co69, eo69⟩ := Kd.V_slice HO857.out; subst eo69; have hcz70_0 : w65.cell? ⟨gb845, 0, none⟩ = some (.int .i64 a0_0) := (blk_cell BK845.out 0).trans rfl; have hcz70_1 : w65.cell? ⟨gb845, 1, none⟩ = some (.slice A0_1 l0_1.length c0_1) := (blk_cell BK845.out 1).trans rfl; have hfz70_0 := blk_frozen BK845.out 0; have hfz70_1 := blk_frozen BK845.out 1) | ((with_reducible refine gate_callee (f := 31) rfl ?_); refine goesL_ (some 37) rfl rfl Try.func31 (by kernel_rfl) rfl #[.agg #[.int .i64 a0_0, .slice A0_1 l0_1.length c0_1], .string a1] rfl (by (try simp only [List.map_toArray, List.map_cons, List.map_nil]); first | done | rfl | (simp only [List.length_drop, List.length_take]; rfl)) ?_; (with_reducible refine (disk_Read.calls a0_0 _ _ l0_1 a1 t859 t860 _ ?side1 ?side2 A10.out).mono ?_); (case side1 => exact Kd.C_below HR0_1.out (by repeat (first | (with_reducible first | exact HB.out | apply below_alloc | apply pw_below_drewN | apply below_drew1 | refine below_set ?_ GE845.out | refine below_set ?_ GE853.out | refine below_set ?_ GE858.out) | exact HB.out))); (case side2 => exact HC0_1.out); rintro e w71 ⟨rfl, hb⟩; refine ⟨_, rfl, ?_⟩; have n0_ := Aside0.mk (Kd.V_below (by (with_reducible repeat (first|apply vA_|apply vN_|apply vD_)); exact (Kd.V_mono (Kd.V_far (p := ⟨gb858, 1, none⟩) (Kd.V_far (p := ⟨gb858, 0, none⟩) (Kd.V_mono HO851.out (fun k_ hk => (⟨hk, hk.2⟩ : _ ∧ k_ ≠ gb858))) (fun _ hk => hk.2) (.int .i64 t854)) (fun _ hk => hk.2) (.slice Ao69 t855.length co69)) (fun _ h_ => h_.1))) hb); have n1_ := Aside0.mk (Kd.V_below (by (with_reducible repeat (first|apply vA_|apply vN_|apply vD_)); exact (Kd.V_mono (Kd.V_far (p := ⟨gb858, 1, none⟩) (Kd.V_far (p := ⟨gb858, 0, none⟩) (Kd.V_mono HO857.out (fun k_ hk => (⟨hk, hk.2⟩ : _ ∧ k_ ≠ gb858))) (fun _ hk => hk.2) (.int .i64 t854)) (fun _ hk => hk.2) (.slice Ao69 t855.length co69)) (fun _ h_ => h_.1))) hb); have n2_ := Aside0.mk (blk_below (g := gb845) (o := .cells #[.int .i64 a0_0, .slice A0_1 l0_1.length c0_1] 46 (0, 0)) (by (with_reducible repeat (first|apply bN_|apply bD_|apply bA_)); refine blk_far ?_ NB845_858.out _; (with_reducible repeat (first|apply bN_|apply bD_|apply bA_)); refine blk_far ?_ NB845_858.out _; (with_reducible repeat (first|apply bN_|apply bD_|apply bA_)); exact BK845.out) hb); have n3_ := Aside0.mk (blk_below (g := gb853) (o := .cells #[.int .i64 t848, .slice Ao61 t849.length co61] 46 (0, 0)) (by (with_reducible repeat (first|apply bN_|apply bD_|apply bA_)); refine blk_far ?_ NB853_858.out _; (with_reducible repeat (first|apply bN_|apply bD_|apply bA_)); refine blk_far ?_ NB853_858.out _; (with_reducible repeat (first|apply bN_|apply bD_|apply bA_)); exact BK853.out) hb); have n4_ := Aside0.mk (blk_below (g := gb858) (o := .cells #[.int .i64 t854, .slice Ao69 t855.length co69] 46 (0, 0)) (by (with_reducible repeat (first|apply bN_|apply bD_|apply bA_)); refine blk_put (cs := #[.int .i64 t854, .slice none 0 0]) ?_ 1 _ rfl; (with_reducible repeat (first|apply bN_|apply bD_|apply bA_)); refine blk_put (cs := #[.int .i64 0, .slice none 0 0]) ?_ 0 _ rfl; (with_reducible repeat (first|apply bN_|apply bD_|apply bA_)); exact BK858.out) hb); have n5_ := Aside0.mk (below_step (by repeat (first | (with_reducible first | exact HB.out | apply below_alloc | apply pw_below_drewN | apply below_drew1 | refine below_set ?_ GE845.out | refine below_set ?_ GE853.out | refine below_set ?_ GE858.out) | exact HB.out)) hb); clear HO851; clear HO857; clear BK845; clear BK853; clear BK858; clear HB; have HO851 := n0_; have HO857 := n1_; have BK845 := n2_; have BK853 := n3_; have BK858 := n4_; have HB := n5_; clear n0_ n1_ n2_ n3_ n4_ n5_; (try clear hb); (try clear hb2); (try clear hk); (try clear hi); have hcz72_0 : w71.cell? ⟨gb858, 0, none⟩ = some (.int .i64 t854) := (blk_cell BK858.out 0).trans rfl; have hcz72_1 : w71.cell? ⟨gb858, 1, none⟩ = some (.slice Ao69 t855.length co69) := (blk_cell BK858.out 1).trans rfl; have hfz72_0 := blk_frozen BK858.out 0; have hfz72_1 := blk_frozen BK858.out 1) | ((with_reducible refine gate_callee (f := 31) rfl ?_); refine goesL_ (some 43) rfl rfl Try.func31 (by kernel_rfl) rfl #[.agg #[.int .i64 t854, .slice Ao69 t855.length co69], .string a1] rfl (by (try simp only [List.map_toArray, List.map_cons, List.map_nil]); first | done | rfl | (simp only [List.length_drop, List.length_take]; rfl)) ?_; (with_reducible refine (disk_Read.calls t854 _ _ t855 a1 t861 t862 _ ?side1 ?side2 A11.out).mono ?_); (case side1 => repeat (first | exact (Kd.V_reads' HO857.out).2.2 | (with_reducible refine Kd.C_alloc ?_ _) | (with_reducible refine Kd.C_drewN ?_ _) | (with_reducible refine Kd.C_drew ?_))); (case side2 => exact (Kd.V_reads' HO857.out).2.1); rintro e w73 ⟨rfl, hb⟩; refine ⟨_, rfl, ?_⟩; have n0_ := Aside0.mk (Kd.V_below (by (with_reducible repeat (first|apply vA_|apply vN_|apply vD_)); exact HO851.out) hb); have n1_ := Aside0.mk (Kd.V_below (by (with_reducible repeat (first|apply vA_|apply vN_|apply vD_)); exact HO857.out) hb); have n2_ := Aside0.mk (blk_below (g := gb845) (by (with_reducible repeat (first|apply bN_|apply bD_|apply bA_)); exact BK845.out) hb); have n3_ := Aside0.mk (blk_below (g := gb853) (by (with_reducible repeat (first|apply bN_|apply bD_|apply bA_)); exact BK853.out) hb); have n4_ := Aside0.mk (blk_below (g := gb858) (by (with_reducible repeat (first|apply bN_|apply bD_|apply bA_)); exact BK858.out) hb); have n5_ := Aside0.mk (below_step (by repeat (first | (with_reducible first | exact HB.out | apply below_alloc | apply pw_below_drewN | apply below_drew1 | refine below_set ?_ GE845.out | refine below_set ?_ GE853.out | refine below_set ?_ GE858.out) | exact HB.out)) hb); clear HO851; clear HO857; clear BK845; clear BK853; clear BK858; clear HB; have HO851 := n0_; have HO857 := n1_; have BK845 := n2_; have BK853 := n3_; have BK858 := n4_; have HB := n5_; clear n0_ n1_ n2_ n3_ n4_ n5_; (try clear hb); (try clear hb2); (try clear hk); (try clear hi)))
        have n0_ := Aside0.mk (Kd.V_drew HO851.out)
        have n1_ := Aside0.mk (Kd.V_drew HO857.out)
        have n2_ := Aside0.mk (blk_drew BK845.out)
        have n3_ := Aside0.mk (blk_drew BK853.out)
        have n4_ := Aside0.mk (blk_drew BK858.out)
        have n5_ := Aside0.mk (below_drew1 HB.out)
        clear HO851
        clear HO857
        clear BK845
        clear BK853
        clear BK858
        clear HB
        have HO851 := n0_
        have HO857 := n1_
        have BK845 := n2_
        have BK853 := n3_
        have BK858 := n4_
        have HB := n5_
        clear n0_ n1_ n2_ n3_ n4_ n5_
        refine start_ (n := 29) (S := fun w' => w'.cell? ⟨gb858, 0, none⟩ = some (.int .i64 t854) ∧ w'.cell? ⟨gb858, 1, none⟩ = some (.slice Ao69 t855.length co69) ∧ w'.cell? ⟨gb845, 0, none⟩ = some (.int .i64 a0_0) ∧ w'.cell? ⟨gb845, 1, none⟩ = some (.slice A0_1 l0_1.length c0_1)) (ds := []) #[false, false, false, false, false, false, false, false, false, false, false, false, false, false, false, false, false, false, false, false, false, false, false, false, false, false, false, false, false] (by kernel_rfl) rfl rfl ⟨(blk_cell BK858.out 0).trans rfl, (blk_cell BK858.out 1).trans rfl, (blk_cell BK845.out 0).trans rfl, (blk_cell BK845.out 1).trans rfl⟩ (fun hHeld => ?_); refine with_tabW tallysticklaw15_DiskSafe.tab11 tallysticklaw15_DiskSafe.bits11 (fun HT_ HW_ => ?_)
        generalize w73.drew = w74 at HO851 HO857 BK845 BK853 BK858 HB hHeld ⊢
        refine pure_ (i := 0) (N := some 46) (v := ?_) (a' := ?_) #[true, false, false, false, false, false, false, false, false, false, false, false, false, false, false, false, false, false, false, false, false, false, false, false, false, false, false, false, false] rfl rfl (any_of HT_.out (by kernel_rfl)) (fun _ _ _ h => h) (Or.inl ⟨by rfl, ?_⟩) ?_ ?_
        rotate_left
        ·intro w'
         go_simp
         with_reducible rfl
        rotate_left
        ·simp only [Act.put, List.setIfInBounds_toArray, List.set_cons_zero, List.set_cons_succ, i64_w, i32_w]
         rfl
        refine pure_ (i := 1) (N := some 47) (v := ?_) (a' := ?_) #[true, true, false, false, false, false, false, false, false, false, false, false, false, false, false, false, false, false, false, false, false, false, false, false, false, false, false, false, false] rfl rfl (any_of HT_.out (by kernel_rfl)) (fun _ _ _ h => h) (Or.inl ⟨by rfl, ?_⟩) ?_ ?_
        rotate_left
        ·intro w'
         go_simp
         with_reducible rfl
        rotate_left
        ·simp only [Act.put, List.setIfInBounds_toArray, List.set_cons_zero, List.set_cons_succ, i64_w, i32_w]
         rfl
        refine pure_ (i := 2) (N := some 48) (v := ?_) (a' := ?_) #[true, true, true, false, false, false, false, false, false, false, false, false, false, false, false, false, false, false, false, false, false, false, false, false, false, false, false, false, false] rfl rfl (any_of HT_.out (by kernel_rfl)) (fun _ _ _ h => h) (Or.inl ⟨by rfl, ?_⟩) ?_ ?_
        rotate_left
        ·intro w'
         go_simp
         with_reducible rfl
        rotate_left
        ·simp only [Act.put, List.setIfInBounds_toArray, List.set_cons_zero, List.set_cons_succ, i64_w, i32_w]
         rfl
        refine pure_ (i := 3) (N := some 49) (v := ?_) (a' := ?_) #[true, true, true, true, false, false, false, false, false, false, false, false, false, false, false, false, false, false, false, false, false, false, false, false, false, false, false, false, false] rfl rfl (any_of HT_.out (by kernel_rfl)) (fun _ _ _ h => h) (Or.inl ⟨by rfl, ?_⟩) ?_ ?_
        rotate_left
        ·intro w'
         go_simp
         with_reducible rfl
        rotate_left
        ·simp only [Act.put, List.setIfInBounds_toArray, List.set_cons_zero, List.set_cons_succ, i64_w, i32_w]
         rfl
        refine pure_ (i := 4) (N := some 50) (v := ?_) (a' := ?_) #[true, true, true, true, true, false, false, false, false, false, false, false, false, false, false, false, false, false, false, false, false, false, false, false, false, false, false, false, false] rfl rfl (any_of HT_.out (by kernel_rfl)) (fun _ _ _ h => h) (Or.inl ⟨by rfl, ?_⟩) ?_ ?_
        rotate_left
        ·intro w'
         go_simp
         with_reducible rfl
        rotate_left
        ·simp only [Act.put, List.setIfInBounds_toArray, List.set_cons_zero, List.set_cons_succ, i64_w, i32_w]
         rfl
        refine pure_ (i := 5) (N := some 51) (v := ?_) (a' := ?_) #[true, true, true, true, true, true, false, false, false, false, false, false, false, false, false, false, false, false, false, false, false, false, false, false, false, false, false, false, false] rfl rfl (any_of HT_.out (by kernel_rfl)) (fun _ _ _ h => h) (Or.inl ⟨by rfl, ?_⟩) ?_ ?_
        rotate_left
        ·intro w'
         go_simp
         with_reducible rfl
        rotate_left
        ·simp only [Act.put, List.setIfInBounds_toArray, List.set_cons_zero, List.set_cons_succ, i64_w, i32_w]
         rfl
        refine pure_ (i := 6) (N := some 52) (v := ?_) (a' := ?_) #[true, true, true, true, true, true, true, false, false, false, false, false, false, false, false, false, false, false, false, false, false, false, false, false, false, false, false, false, false] rfl rfl (any_of HT_.out (by kernel_rfl)) (fun _ _ _ h => h) (Or.inl ⟨by rfl, ?_⟩) ?_ ?_
        rotate_left
        ·intro w'
         go_simp
         with_reducible rfl
        rotate_left
        ·simp only [Act.put, List.setIfInBounds_toArray, List.set_cons_zero, List.set_cons_succ, i64_w, i32_w]
         rfl
        refine pure_ (i := 7) (N := some 53) (v := ?_) (a' := ?_) #[true, true, true, true, true, true, true, true, false, false, false, false, false, false, false, false, false, false, false, false, false, false, false, false, false, false, false, false, false] rfl rfl (any_of HT_.out (by kernel_rfl)) (fun _ _ _ h => h) (Or.inl ⟨by rfl, ?_⟩) ?_ ?_
        rotate_left
        ·intro w'
         go_simp
         with_reducible rfl
        rotate_left
        ·simp only [Act.put, List.setIfInBounds_toArray, List.set_cons_zero, List.set_cons_succ, i64_w, i32_w]
         rfl
        refine pure_ (i := 8) (N := some 54) (v := ?_) (a' := ?_) #[true, true, true, true, true, true, true, true, true, false, false, false, false, false, false, false, false, false, false, false, false, false, false, false, false, false, false, false, false] rfl rfl (any_of HT_.out (by kernel_rfl)) (fun _ _ _ h => h) (Or.inl ⟨by rfl, ?_⟩) ?_ ?_
        rotate_left
        ·intro w'
         go_simp
         with_reducible rfl
        rotate_left
        ·simp only [Act.put, List.setIfInBounds_toArray, List.set_cons_zero, List.set_cons_succ, i64_w, i32_w]
         rfl
        refine pure_ (i := 9) (N := some 55) (v := ?_) (a' := ?_) #[true, true, true, true, true, true, true, true, true, true, false, false, false, false, false, false, false, false, false, false, false, false, false, false, false, false, false, false, false] rfl rfl (any_of HT_.out (by kernel_rfl)) (fun _ _ _ h => h) (Or.inl ⟨by rfl, ?_⟩) ?_ ?_
        rotate_left
        ·intro w'
         go_simp
         with_reducible rfl
        rotate_left
        ·simp only [Act.put, List.setIfInBounds_toArray, List.set_cons_zero, List.set_cons_succ, i64_w, i32_w]
         rfl
        refine pure_ (i := 10) (N := some 56) (v := ?_) (a' := ?_) #[true, true, true, true, true, true, true, true, true, true, true, false, false, false, false, false, false, false, false, false, false, false, false, false, false, false, false, false, false] rfl rfl (any_of HT_.out (by kernel_rfl)) (fun _ _ _ h => h) (Or.inl ⟨by rfl, ?_⟩) ?_ ?_
        rotate_left
        ·intro w'
         go_simp
         with_reducible rfl
        rotate_left
        ·simp only [Act.put, List.setIfInBounds_toArray, List.set_cons_zero, List.set_cons_succ, i64_w, i32_w]
         rfl
        refine pure_ (i := 11) (N := some 57) (v := ?_) (a' := ?_) #[true, true, true, true, true, true, true, true, true, true, true, true, false, false, false, false, false, false, false, false, false, false, false, false, false, false, false, false, false] rfl rfl (any_of HT_.out (by kernel_rfl)) (fun _ _ _ h => h) (Or.inl ⟨by rfl, ?_⟩) ?_ ?_
        rotate_left
        ·intro w'
         go_simp
         with_reducible rfl
        rotate_left
        ·simp only [Act.put, List.setIfInBounds_toArray, List.set_cons_zero, List.set_cons_succ, i64_w, i32_w]
         rfl
        refine pure_ (i := 12) (N := some 58) (v := ?_) (a' := ?_) #[true, true, true, true, true, true, true, true, true, true, true, true, true, false, false, false, false, false, false, false, false, false, false, false, false, false, false, false, false] rfl rfl (any_of HT_.out (by kernel_rfl)) (fun _ _ _ h => h) (Or.inl ⟨by rfl, ?_⟩) ?_ ?_
        rotate_left
        ·intro w'
         go_simp
         with_reducible rfl
        rotate_left
        ·simp only [Act.put, List.setIfInBounds_toArray, List.set_cons_zero, List.set_cons_succ, i64_w, i32_w]
         rfl
        refine pure_ (i := 13) (N := some 59) (v := ?_) (a' := ?_) #[true, true, true, true, true, true, true, true, true, true, true, true, true, true, false, false, false, false, false, false, false, false, false, false, false, false, false, false, false] rfl rfl (any_of HT_.out (by kernel_rfl)) (fun _ _ _ h => h) (Or.inl ⟨by rfl, ?_⟩) ?_ ?_
        rotate_left
        ·intro w'
         go_simp
         with_reducible rfl
        rotate_left
        ·simp only [Act.put, List.setIfInBounds_toArray, List.set_cons_zero, List.set_cons_succ, i64_w, i32_w]
         rfl
        refine pure_ (i := 14) (N := some 60) (v := ?_) (a' := ?_) #[true, true, true, true, true, true, true, true, true, true, true, true, true, true, true, false, false, false, false, false, false, false, false, false, false, false, false, false, false] rfl rfl (any_of HT_.out (by kernel_rfl)) (fun _ _ _ h => h) (Or.inl ⟨by rfl, ?_⟩) ?_ ?_
        rotate_left
        ·intro w'
         go_simp
         with_reducible rfl
        rotate_left
        ·simp only [Act.put, List.setIfInBounds_toArray, List.set_cons_zero, List.set_cons_succ, i64_w, i32_w]
         rfl
        refine take_ (i := 15) (N := some 61) (v := ?_) (a' := ?_) #[true, true, true, true, true, true, true, true, true, true, true, true, true, true, true, true, false, false, false, false, false, false, false, false, false, false, false, false, false] rfl rfl (take_ofW HT_.out HW_.out (by kernel_rfl)) (fun _ _ _ h => h) (Or.inl ⟨by rfl, ?_⟩) hHeld ?_ ?_
        rotate_left
        ·rintro w' ⟨s0, s1, s2, s3⟩
         go_simp
         with_reducible rfl
        rotate_left
        ·simp only [Act.put, List.setIfInBounds_toArray, List.set_cons_zero, List.set_cons_succ, i64_w, i32_w]
         rfl
        refine take_ (i := 17) (N := some 63) (v := ?_) (a' := ?_) #[true, true, true, true, true, true, true, true, true, true, true, true, true, true, true, true, false, true, false, false, false, false, false, false, false, false, false, false, false] rfl rfl (take_ofW HT_.out HW_.out (by kernel_rfl)) (fun _ _ _ h => h) (Or.inl ⟨by rfl, ?_⟩) hHeld ?_ ?_
        rotate_left
        ·rintro w' ⟨s0, s1, s2, s3⟩
         go_simp
         with_reducible rfl
        rotate_left
        ·simp only [Act.put, List.setIfInBounds_toArray, List.set_cons_zero, List.set_cons_succ, i64_w, i32_w]
         rfl
        refine one_ (i := 16) (N := some 62) #[true, true, true, true, true, true, true, true, true, true, true, true, true, true, true, true, true, true, false, false, false, false, false, false, false, false, false, false, false] rfl rfl (one_of HT_.out (by kernel_rfl)) (by decide) (fun K hK => ?_)
        refine goes_ Try.func34 (by kernel_rfl) rfl #[.agg #[.int .i64 t854, .slice Ao69 t855.length co69], .string (⟨#[]⟩ : ByteArray)] (by rfl) rfl rfl (by (try simp only [List.map_toArray, List.map_cons, List.map_nil]); first | done | rfl | (simp only [List.length_drop, List.length_take]; rfl)) ?_
        with_reducible refine (disk_List.calls t854 (fun k_ => ((k_ ≠ gb845 ∧ k_ ≠ gb853) ∧ k_ ≠ gb858)) _ _ t855 (⟨#[]⟩ : ByteArray) t863 _ ?side1 A16.out).mono ?_
        (case side1 => exact HO857.out)
        rintro e w75 ⟨v864, rfl, ho0, hb⟩
        refine ⟨_, rfl, ?_⟩
        have n0_ := Aside0.mk (Kd.V_below (by (with_reducible repeat (first|apply vA_|apply vN_|apply vD_)); exact HO851.out) hb)
        have n1_ := Aside0.mk (Kd.V_below (by (with_reducible repeat (first|apply vA_|apply vN_|apply vD_)); exact HO857.out) hb)
        have n2_ := Aside0.mk (Kd.V_lower (Kd.V_mono (ok' := fun k_ => k_ ≠ gb845 ∧ k_ ≠ gb853 ∧ k_ ≠ gb858) ho0 (fun k_ hk_ => ⟨Or.elim hk_ (fun hs_ => hs_.1.1) (fun hn_ => (Kd.freshB (g := gb845) (by (with_reducible repeat (first|apply bN_|apply bD_|apply bA_)); exact BK845.out) k_ hn_)), Or.elim hk_ (fun hs_ => hs_.1.2) (fun hn_ => (Kd.freshB (g := gb853) (by (with_reducible repeat (first|apply bN_|apply bD_|apply bA_)); exact BK853.out) k_ hn_)), Or.elim hk_ (fun hs_ => hs_.2) (fun hn_ => (Kd.freshB (g := gb858) (by (with_reducible repeat (first|apply bN_|apply bD_|apply bA_)); exact BK858.out) k_ hn_))⟩)) (below_size (by repeat (first | (with_reducible first | exact HB.out | apply below_alloc | apply pw_below_drewN | apply below_drew1 | refine below_set ?_ GE845.out | refine below_set ?_ GE853.out | refine below_set ?_ GE858.out) | exact HB.out))))
        have n3_ := Aside0.mk (blk_below (g := gb845) (by (with_reducible repeat (first|apply bN_|apply bD_|apply bA_)); exact BK845.out) hb)
        have n4_ := Aside0.mk (blk_below (g := gb853) (by (with_reducible repeat (first|apply bN_|apply bD_|apply bA_)); exact BK853.out) hb)
        have n5_ := Aside0.mk (blk_below (g := gb858) (by (with_reducible repeat (first|apply bN_|apply bD_|apply bA_)); exact BK858.out) hb)
        have n6_ := Aside0.mk (below_step (by repeat (first | (with_reducible first | exact HB.out | apply below_alloc | apply pw_below_drewN | apply below_drew1 | refine below_set ?_ GE845.out | refine below_set ?_ GE853.out | refine below_set ?_ GE858.out) | exact HB.out)) hb)
        clear HO851
        clear HO857
        clear BK845
        clear BK853
        clear BK858
        clear HB
        have HO851 := n0_
        have HO857 := n1_
        have HO865 := n2_
        have BK845 := n3_
        have BK853 := n4_
        have BK858 := n5_
        have HB := n6_
        clear n0_ n1_ n2_ n3_ n4_ n5_ n6_
        (try clear hb)
        (try clear hb2)
        (try clear hk)
        (try clear hi)
        (try clear ho0)
        refine hK.out _ _ ⟨(blk_cell BK858.out 0).trans rfl, (blk_cell BK858.out 1).trans rfl, (blk_cell BK845.out 0).trans rfl, (blk_cell BK845.out 1).trans rfl⟩ (fun hHeld => ?_)
        clear hK K
        refine norm_ (a' := ?_) ?_ ?_
        rotate_left
        ·show Act.put _ (some 62) _ = _
         simp only [Act.put, List.setIfInBounds_toArray, List.set_cons_zero, List.set_cons_succ, i64_w, i32_w]
         rfl
        refine one_ (i := 18) (N := some 64) #[true, true, true, true, true, true, true, true, true, true, true, true, true, true, true, true, true, true, true, false, false, false, false, false, false, false, false, false, false] rfl rfl (one_of HT_.out (by kernel_rfl)) (by decide) (fun K hK => ?_)
        refine goes_ Try.func34 (by kernel_rfl) rfl #[.agg #[.int .i64 a0_0, .slice A0_1 l0_1.length c0_1], .string (⟨#[]⟩ : ByteArray)] (by rfl) rfl rfl (by (try simp only [List.map_toArray, List.map_cons, List.map_nil]); first | done | rfl | (simp only [List.length_drop, List.length_take]; rfl)) ?_
        with_reducible refine (disk_List.calls a0_0 (fun k_ => k_ < w.heap.size) _ _ l0_1 (⟨#[]⟩ : ByteArray) t866 _ ?side1 A17.out).mono ?_
        (case side1 => exact Kd.V_mk HC0_1.out (Kd.F_below (Kd.C_F k55_heap HR0_1.out) (by repeat (first | (with_reducible first | exact HB.out | apply below_alloc | apply pw_below_drewN | apply below_drew1 | refine below_set ?_ GE845.out | refine below_set ?_ GE853.out | refine below_set ?_ GE858.out) | exact HB.out))))
        rintro e w76 ⟨v867, rfl, ho0, hb⟩
        refine ⟨_, rfl, ?_⟩
        have n0_ := Aside0.mk (Kd.V_below (by (with_reducible repeat (first|apply vA_|apply vN_|apply vD_)); exact HO851.out) hb)
        have n1_ := Aside0.mk (Kd.V_below (by (with_reducible repeat (first|apply vA_|apply vN_|apply vD_)); exact HO857.out) hb)
        have n2_ := Aside0.mk (Kd.V_below (by (with_reducible repeat (first|apply vA_|apply vN_|apply vD_)); exact HO865.out) hb)
        have n3_ := Aside0.mk (Kd.V_lower (Kd.V_mono (ok' := fun k_ => k_ ≠ gb845 ∧ k_ ≠ gb853 ∧ k_ ≠ gb858) ho0 (fun k_ hk_ => ⟨Or.elim hk_ (fun hs_ => fun e_ => Nat.not_le.2 hs_ (by rw [e_]; exact GW845.out)) (fun hn_ => (Kd.freshB (g := gb845) (by (with_reducible repeat (first|apply bN_|apply bD_|apply bA_)); exact BK845.out) k_ hn_)), Or.elim hk_ (fun hs_ => fun e_ => Nat.not_le.2 hs_ (by rw [e_]; exact GW853.out)) (fun hn_ => (Kd.freshB (g := gb853) (by (with_reducible repeat (first|apply bN_|apply bD_|apply bA_)); exact BK853.out) k_ hn_)), Or.elim hk_ (fun hs_ => fun e_ => Nat.not_le.2 hs_ (by rw [e_]; exact GW858.out)) (fun hn_ => (Kd.freshB (g := gb858) (by (with_reducible repeat (first|apply bN_|apply bD_|apply bA_)); exact BK858.out) k_ hn_))⟩)) (below_size (by repeat (first | (with_reducible first | exact HB.out | apply below_alloc | apply pw_below_drewN | apply below_drew1 | refine below_set ?_ GE845.out | refine below_set ?_ GE853.out | refine below_set ?_ GE858.out) | exact HB.out))))
        have n4_ := Aside0.mk (blk_below (g := gb845) (by (with_reducible repeat (first|apply bN_|apply bD_|apply bA_)); exact BK845.out) hb)
        have n5_ := Aside0.mk (blk_below (g := gb853) (by (with_reducible repeat (first|apply bN_|apply bD_|apply bA_)); exact BK853.out) hb)
        have n6_ := Aside0.mk (blk_below (g := gb858) (by (with_reducible repeat (first|apply bN_|apply bD_|apply bA_)); exact BK858.out) hb)
        have n7_ := Aside0.mk (below_step (by repeat (first | (with_reducible first | exact HB.out | apply below_alloc | apply pw_below_drewN | apply below_drew1 | refine below_set ?_ GE845.out | refine below_set ?_ GE853.out | refine below_set ?_ GE858.out) | exact HB.out)) hb)
        clear HO851
        clear HO857
        clear HO865
        clear BK845
        clear BK853
        clear BK858
        clear HB
        have HO851 := n0_
        have HO857 := n1_
        have HO865 := n2_
        have HO868 := n3_
        have BK845 := n4_
        have BK853 := n5_
        have BK858 := n6_
        have HB := n7_
        clear n0_ n1_ n2_ n3_ n4_ n5_ n6_ n7_
        (try clear hb)
        (try clear hb2)
        (try clear hk)
        (try clear hi)
        (try clear ho0)
        obtain ⟨Ao77, co77, eo77⟩ := Kd.V_slice HO865.out
        (first | subst eo77 | (injection eo77 with f1_ f2_ f3_; have f4_ := f1_.symm; have f5_ := f3_.symm; clear f1_ f2_ f3_; subst f4_; subst f5_))
        obtain ⟨Ao78, co78, eo78⟩ := Kd.V_slice HO868.out
        (first | subst eo78 | (injection eo78 with f1_ f2_ f3_; have f4_ := f1_.symm; have f5_ := f3_.symm; clear f1_ f2_ f3_; subst f4_; subst f5_))
        refine hK.out _ _ ⟨(blk_cell BK858.out 0).trans rfl, (blk_cell BK858.out 1).trans rfl, (blk_cell BK845.out 0).trans rfl, (blk_cell BK845.out 1).trans rfl⟩ (fun hHeld => ?_)
        clear hK K
        refine norm_ (a' := ?_) ?_ ?_
        rotate_left
        ·show Act.put _ (some 64) _ = _
         simp only [Act.put, List.setIfInBounds_toArray, List.set_cons_zero, List.set_cons_succ, i64_w, i32_w]
         rfl
        refine one_ (i := 19) (N := some 65) #[true, true, true, true, true, true, true, true, true, true, true, true, true, true, true, true, true, true, true, true, false, false, false, false, false, false, false, false, false] rfl rfl (one_of HT_.out (by kernel_rfl)) (by decide) (fun K hK => ?_)
        refine goes_ Try.func33 (by kernel_rfl) rfl #[.slice Ao77 t863.length co77, .slice Ao78 t866.length co78] (by rfl) rfl rfl (by (try simp only [List.map_toArray, List.map_cons, List.map_nil]); first | done | rfl | (simp only [List.length_drop, List.length_take]; rfl)) ?_
        with_reducible refine (tallystickref15_Strings.calls k _ _ t863 _ _ t866 false _ ?side1 ?side2 ?side3 ?side4 A18.out).mono ?_
        (case side1 => repeat (first | exact (Kd.V_reads' HO865.out).2.2 | (with_reducible refine Kd.C_alloc ?_ _) | (with_reducible refine Kd.C_drewN ?_ _) | (with_reducible refine Kd.C_drew ?_)))
        (case side2 => exact (Kd.V_reads' HO865.out).2.1)
        (case side3 => repeat (first | exact (Kd.V_reads' HO868.out).2.2 | (with_reducible refine Kd.C_alloc ?_ _) | (with_reducible refine Kd.C_drewN ?_ _) | (with_reducible refine Kd.C_drew ?_)))
        (case side4 => exact (Kd.V_reads' HO868.out).2.1)
        rintro e w' ⟨rfl, ⟨nd, rfl⟩⟩
        refine ⟨_, rfl, ?_⟩
        refine hK.out _ _ ⟨(blk_cell BK858.out 0).trans rfl, (blk_cell BK858.out 1).trans rfl, (blk_cell BK845.out 0).trans rfl, (blk_cell BK845.out 1).trans rfl⟩ (fun hHeld => ?_)
        clear hK K
        refine norm_ (a' := ?_) ?_ ?_
        rotate_left
        ·show Act.put _ (some 65) _ = _
         simp only [Act.put, List.setIfInBounds_toArray, List.set_cons_zero, List.set_cons_succ, i64_w, i32_w]
         rfl
        refine pure_ (i := 20) (N := some 66) (v := ?_) (a' := ?_) #[true, true, true, true, true, true, true, true, true, true, true, true, true, true, true, true, true, true, true, true, true, false, false, false, false, false, false, false, false] rfl rfl (any_of HT_.out (by kernel_rfl)) (fun _ _ _ h => h) (Or.inl ⟨by rfl, ?_⟩) ?_ ?_
        rotate_left
        ·intro w'
         go_simp
         with_reducible rfl
        rotate_left
        ·simp only [Act.put, List.setIfInBounds_toArray, List.set_cons_zero, List.set_cons_succ, i64_w, i32_w]
         rfl
        refine pure_ (i := 21) (N := some 67) (v := ?_) (a' := ?_) #[true, true, true, true, true, true, true, true, true, true, true, true, true, true, true, true, true, true, true, true, true, true, false, false, false, false, false, false, false] rfl rfl (any_of HT_.out (by kernel_rfl)) (fun _ _ _ h => h) (Or.inl ⟨by rfl, ?_⟩) ?_ ?_
        rotate_left
        ·intro w'
         go_simp
         with_reducible rfl
        rotate_left
        ·simp only [Act.put, List.setIfInBounds_toArray, List.set_cons_zero, List.set_cons_succ, i64_w, i32_w]
         rfl
        refine pure_ (i := 22) (N := some 68) (v := undef) (a' := ?_) #[true, true, true, true, true, true, true, true, true, true, true, true, true, true, true, true, true, true, true, true, true, true, true, false, false, false, false, false, false] rfl rfl (any_of HT_.out (by kernel_rfl)) (fun _ _ _ h => h) (Or.inr ⟨by rfl, rfl⟩) ?_ ?_
        rotate_left
        ·simp only [Act.put, List.setIfInBounds_toArray, List.set_cons_zero, List.set_cons_succ, i64_w, i32_w]
         rfl
        refine pure_ (i := 23) (N := some 69) (v := undef) (a' := ?_) #[true, true, true, true, true, true, true, true, true, true, true, true, true, true, true, true, true, true, true, true, true, true, true, true, false, false, false, false, false] rfl rfl (any_of HT_.out (by kernel_rfl)) (fun _ _ _ h => h) (Or.inr ⟨by rfl, rfl⟩) ?_ ?_
        rotate_left
        ·simp only [Act.put, List.setIfInBounds_toArray, List.set_cons_zero, List.set_cons_succ, i64_w, i32_w]
         rfl
        refine pure_ (i := 24) (N := some 70) (v := undef) (a' := ?_) #[true, true, true, true, true, true, true, true, true, true, true, true, true, true, true, true, true, true, true, true, true, true, true, true, true, false, false, false, false] rfl rfl (any_of HT_.out (by kernel_rfl)) (fun _ _ _ h => h) (Or.inr ⟨by rfl, rfl⟩) ?_ ?_
        rotate_left
        ·simp only [Act.put, List.setIfInBounds_toArray, List.set_cons_zero, List.set_cons_succ, i64_w, i32_w]
         rfl
        refine pure_ (i := 25) (N := some 71) (v := undef) (a' := ?_) #[true, true, true, true, true, true, true, true, true, true, true, true, true, true, true, true, true, true, true, true, true, true, true, true, true, true, false, false, false] rfl rfl (any_of HT_.out (by kernel_rfl)) (fun _ _ _ h => h) (Or.inr ⟨by rfl, rfl⟩) ?_ ?_
        rotate_left
        ·simp only [Act.put, List.setIfInBounds_toArray, List.set_cons_zero, List.set_cons_succ, i64_w, i32_w]
         rfl
        refine pure_ (i := 26) (N := some 72) (v := undef) (a' := ?_) #[true, true, true, true, true, true, true, true, true, true, true, true, true, true, true, true, true, true, true, true, true, true, true, true, true, true, true, false, false] rfl rfl (any_of HT_.out (by kernel_rfl)) (fun _ _ _ h => h) (Or.inr ⟨by rfl, rfl⟩) ?_ ?_
        rotate_left
        ·simp only [Act.put, List.setIfInBounds_toArray, List.set_cons_zero, List.set_cons_succ, i64_w, i32_w]
         rfl
        refine pure_ (i := 27) (N := some 73) (v := ?_) (a' := ?_) #[true, true, true, true, true, true, true, true, true, true, true, true, true, true, true, true, true, true, true, true, true, true, true, true, true, true, true, true, false] rfl rfl (any_of HT_.out (by kernel_rfl)) (fun _ _ _ h => h) (Or.inl ⟨by rfl, ?_⟩) ?_ ?_
        rotate_left
        ·intro w'
         go_simp
         with_reducible rfl
        rotate_left
        ·simp only [Act.put, List.setIfInBounds_toArray, List.set_cons_zero, List.set_cons_succ, i64_w, i32_w]
         rfl
        refine pure_ (i := 28) (N := some 6) (v := ?_) (a' := ?_) #[true, true, true, true, true, true, true, true, true, true, true, true, true, true, true, true, true, true, true, true, true, true, true, true, true, true, true, true, true] rfl rfl (any_of HT_.out (by kernel_rfl)) (fun _ _ _ h => h) (Or.inl ⟨by rfl, ?_⟩) ?_ ?_
        rotate_left
        ·intro w'
         go_simp
         with_reducible rfl
        rotate_left
        ·simp only [Act.put, List.setIfInBounds_toArray, List.set_cons_zero, List.set_cons_succ, i64_w, i32_w]
         rfl
        refine done_ (done_of HT_.out (by kernel_rfl)) ?_
        try go_wp2
        go_ret
        exact ⟨by first | rfl | (simp [errW_none, errW_some] <;> rfl) | (simp [*, errW_none, errW_some] <;> rfl), by repeat (first | (with_reducible first | exact HB.out | apply below_alloc | apply pw_below_drewN | apply below_drew1 | refine below_set ?_ GE845.out | refine below_set ?_ GE853.out | refine below_set ?_ GE858.out) | exact HB.out)⟩
      ·rw [if_neg c15] at H
       have c15b0 : (t859.toList == t861.toList) = false := beq_eq_false_iff_ne.mpr c15
       have c15b1 : (t859.toList != t861.toList) = true := bne_iff_ne.mpr c15
       obtain rfl := Option.some.inj H
       go_enter Try.func11, Try.ntmps11
       try go_wp2_with (first | ((with_reducible refine gate_dst (N := 3) rfl ?_); refine box_event ?hg (N := 3) ?hd (cs := #[.int .i64 a0_0, .slice A0_1 l0_1.length c0_1]) (t := 46) ?hr ?_; (case hd => rfl); (case hg => rfl); (case hr => first | (go_simp; done) | (go_simp; rfl)); intro gb845 hg w79 hbox hb; have n0_ := Aside0.mk (below_step (by repeat (first | (with_reducible first | exact HB.out | apply below_alloc | apply pw_below_drewN | apply below_drew1) | exact HB.out)) hb); have n1_ := Aside0.mk (hbox); have n2_ := Aside0.mk ((by rw [hg]; exact (below_size (by repeat (first | (with_reducible first | exact HB.out | apply below_alloc | apply pw_below_drewN | apply below_drew1) | exact HB.out))) : w.heap.size ≤ gb845)); have n3_ := Aside0.mk ((by rw [hg]; exact (below_size (by repeat (first | (with_reducible first | exact HB.out | apply below_alloc | apply pw_below_drewN | apply below_drew1) | exact HB.out))) : w.heap.size ≤ gb845)); clear HB; have HB := n0_; have BK845 := n1_; have GW845 := n2_; have GE845 := n3_; clear n0_ n1_ n2_ n3_; clear hb hbox hg) | ((with_reducible refine gate_callee (f := 20) rfl ?_); refine goesL_ (some 16) rfl rfl Try.func20 (by kernel_rfl) rfl #[] rfl (by (try simp only [List.map_toArray, List.map_cons, List.map_nil]); first | done | rfl | (simp only [List.length_drop, List.length_take]; rfl)) ?_; (with_reducible refine (tallysticklaw15_shown.calls k  true _ A4.out).mono ?_); rintro e w80 ⟨rfl, hb⟩; refine ⟨_, rfl, ?_⟩; have n0_ := Aside0.mk (blk_below (g := gb845) (by (with_reducible repeat (first|apply bN_|apply bD_|apply bA_)); exact BK845.out) hb); have n1_ := Aside0.mk (below_step (by repeat (first | (with_reducible first | exact HB.out | apply below_alloc | apply pw_below_drewN | apply below_drew1 | refine below_set ?_ GE845.out) | exact HB.out)) hb); clear BK845; clear HB; have BK845 := n0_; have HB := n1_; clear n0_ n1_; (try clear hb); (try clear hb2); (try clear hk); (try clear hi); have hcz81_0 : w80.cell? ⟨gb845, 0, none⟩ = some (.int .i64 a0_0) := (blk_cell BK845.out 0).trans rfl; have hcz81_1 : w80.cell? ⟨gb845, 1, none⟩ = some (.slice A0_1 l0_1.length c0_1) := (blk_cell BK845.out 1).trans rfl; have hfz81_0 := blk_frozen BK845.out 0; have hfz81_1 := blk_frozen BK845.out 1) | ((with_reducible refine gate_callee (f := 21) rfl ?_); refine goesL_ (some 18) rfl rfl Try.func21 (by kernel_rfl) rfl #[.agg #[.int .i64 a0_0, .slice A0_1 l0_1.length c0_1]] rfl (by (try simp only [List.map_toArray, List.map_cons, List.map_nil]); first | done | rfl | (simp only [List.length_drop, List.length_take]; rfl)) ?_; (with_reducible refine (tallystickref15_Right.calls k a0_0 _ _ l0_1 true _ ?side1 ?side2 A5.out).mono ?_); (case side1 => repeat (first | exact (Kd.C_below HR0_1.out HB.out) | (with_reducible refine Kd.C_alloc ?_ _) | (with_reducible refine Kd.C_drewN ?_ _) | (with_reducible refine Kd.C_drew ?_))); (case side2 => exact HC0_1.out); rintro e w82 ⟨rfl, hb⟩; refine ⟨_, rfl, ?_⟩; have n0_ := Aside0.mk (blk_below (g := gb845) (by (with_reducible repeat (first|apply bN_|apply bD_|apply bA_)); exact BK845.out) hb); have n1_ := Aside0.mk (below_step (by repeat (first | (with_reducible first | exact HB.out | apply below_alloc | apply pw_below_drewN | apply below_drew1 | refine below_set ?_ GE845.out) | exact HB.out)) hb); clear BK845; clear HB; have BK845 := n0_; have HB := n1_; clear n0_ n1_; (try clear hb); (try clear hb2); (try clear hk); (try clear hi); have hcz83_0 : w82.cell? ⟨gb845, 0, none⟩ = some (.int .i64 a0_0) := (blk_cell BK845.out 0).trans rfl; have hcz83_1 : w82.cell? ⟨gb845, 1, none⟩ = some (.slice A0_1 l0_1.length c0_1) := (blk_cell BK845.out 1).trans rfl; have hfz83_0 := blk_frozen BK845.out 0; have hfz83_1 := blk_frozen BK845.out 1) | ((with_reducible refine gate_callee (f := 32) rfl ?_); refine goesL_ (some 25) rfl rfl Try.func32 (by kernel_rfl) rfl #[.agg #[.int .i64 a0_0, .slice A0_1 l0_1.length c0_1], .string a1] rfl (by (try simp only [List.map_toArray, List.map_cons, List.map_nil]); first | done | rfl | (simp only [List.length_drop, List.length_take]; rfl)) ?_; (with_reducible refine (disk_Sync.calls a0_0 (fun k_ => k_ < w.heap.size) _ _ l0_1 a1 t848 t849 t852 _ ?side1 A7.out).mono ?_); (case side1 => exact Kd.V_mk HC0_1.out (Kd.F_below (Kd.C_F k55_heap HR0_1.out) (by repeat (first | (with_reducible first | exact HB.out | apply below_alloc | apply pw_below_drewN | apply below_drew1 | refine below_set ?_ GE845.out) | exact HB.out)))); rintro e w84 ⟨v850, rfl, ho0, hb⟩; refine ⟨_, rfl, ?_⟩; have n0_ := Aside0.mk (Kd.V_lower (Kd.V_mono (ok' := fun k_ => k_ ≠ gb845) ho0 (fun k_ hk_ => Or.elim hk_ (fun hs_ => fun e_ => Nat.not_le.2 hs_ (by rw [e_]; exact GW845.out)) (fun hn_ => (Kd.freshB (g := gb845) (by (with_reducible repeat (first|apply bN_|apply bD_|apply bA_)); exact BK845.out) k_ hn_)))) (below_size (by repeat (first | (with_reducible first | exact HB.out | apply below_alloc | apply pw_below_drewN | apply below_drew1 | refine below_set ?_ GE845.out) | exact HB.out)))); have n1_ := Aside0.mk (blk_below (g := gb845) (by (with_reducible repeat (first|apply bN_|apply bD_|apply bA_)); exact BK845.out) hb); have n2_ := Aside0.mk (below_step (by repeat (first | (with_reducible first | exact HB.out | apply below_alloc | apply pw_below_drewN | apply below_drew1 | refine below_set ?_ GE845.out) | exact HB.out)) hb); clear BK845; clear HB; have HO851 := n0_; have BK845 := n1_; have HB := n2_; clear n0_ n1_ n2_; (try clear hb); (try clear hb2); (try clear hk); (try clear hi); (try clear ho0)) | ((with_reducible refine gate_dst (N := 9) rfl ?_); refine box_event ?hg (N := 9) ?hd (cs := #[.int .i64 0, .slice none 0 0]) (t := 46) ?hr ?_; (case hd => rfl); (case hg => rfl); (case hr => first | (go_simp; done) | (go_simp; rfl)); intro gb853 hg w85 hbox hb; have n0_ := Aside0.mk (Kd.V_below (Kd.V_elderB (by (with_reducible repeat (first|apply vA_|apply vN_|apply vD_)); exact HO851.out) gb853 (Nat.le_of_eq hg.symm)) hb); have n1_ := Aside0.mk (blk_below (g := gb845) (by (with_reducible repeat (first|apply bN_|apply bD_|apply bA_)); exact BK845.out) hb); have n2_ := Aside0.mk (below_step (by repeat (first | (with_reducible first | exact HB.out | apply below_alloc | apply pw_below_drewN | apply below_drew1 | refine below_set ?_ GE845.out) | exact HB.out)) hb); have n3_ := Aside0.mk (hbox); have n4_ := Aside0.mk ((by rw [hg]; exact (below_size (by repeat (first | (with_reducible first | exact HB.out | apply below_alloc | apply pw_below_drewN | apply below_drew1 | refine below_set ?_ GE845.out) | exact HB.out))) : w.heap.size ≤ gb853)); have n5_ := Aside0.mk ((by rw [hg]; exact (below_size (by repeat (first | (with_reducible first | exact HB.out | apply below_alloc | apply pw_below_drewN | apply below_drew1 | refine below_set ?_ GE845.out) | exact HB.out))) : w.heap.size ≤ gb853)); have n6_ := Aside0.mk ((by rw [hg]; exact Nat.ne_of_lt (blk_lt (g := gb845) (by (with_reducible repeat (first|apply bN_|apply bD_|apply bA_)); exact BK845.out)) : gb845 ≠ gb853)); have n7_ := Aside0.mk ((by rw [hg]; exact Nat.ne_of_gt (blk_lt (g := gb845) (by (with_reducible repeat (first|apply bN_|apply bD_|apply bA_)); exact BK845.out)) : gb853 ≠ gb845)); clear HO851; clear BK845; clear HB; have HO851 := n0_; have BK845 := n1_; have HB := n2_; have BK853 := n3_; have GW853 := n4_; have GE853 := n5_; have NB845_853 := n6_; have NB853_845 := n7_; clear n0_ n1_ n2_ n3_ n4_ n5_ n6_ n7_; clear hb hbox hg; have hnb86 := NB853_845.out; have hnc86 := NB845_853.out; have hcz87_0 : w85.cell? ⟨gb853, 0, none⟩ = some (.int .i64 0) := (blk_cell BK853.out 0).trans rfl; have hcz87_1 : w85.cell? ⟨gb853, 1, none⟩ = some (.slice none 0 0) := (blk_cell BK853.out 1).trans rfl; have hfz87_0 := blk_frozen BK853.out 0; have hfz87_1 := blk_frozen BK853.out 1; obtain ⟨Ao88, co88, eo88⟩ := Kd.V_slice HO851.out; subst eo88) | ((with_reducible refine gate_store (t := 46) (p := 9) rfl ?_); refine store_event (t := 46) (p := 9) (v := ?vo_w89) (w1 := ((w85.setCell ⟨gb853, 0, none⟩ (.int .i64 t848)).setCell ⟨gb853, 1, none⟩ (.slice Ao88 t849.length co88))) ?hg ?ho ?hn ?hr ?_; (case ho => rfl); (case hg => rfl); (case hn => rfl); (case hr => first | (go_simp; done) | (go_simp; rfl)); intro w89 hw; have n0_ : Aside0 (Kd.V k55 55 w89 w.heap.size (fun k_ => k_ ≠ gb845 ∧ k_ ≠ gb853) (.slice Ao88 t849.length co88) t849) := ⟨(by rw [hw]; exact (by (with_reducible repeat (first|apply vA_|apply vN_|apply vD_)); exact Kd.V_mono (Kd.V_far (p := ⟨gb853, 1, none⟩) (Kd.V_far (p := ⟨gb853, 0, none⟩) (Kd.V_mono HO851.out (fun k_ hk => (⟨hk, hk.2⟩ : _ ∧ k_ ≠ gb853))) (fun _ hk => hk.2) (.int .i64 t848)) (fun _ hk => hk.2) (.slice Ao88 t849.length co88)) (fun _ hk => ⟨hk.1.1, hk.1.2⟩)))⟩; have n1_ : Aside0 (w89.heap[gb845]? = some (.cells #[.int .i64 a0_0, .slice A0_1 l0_1.length c0_1] 46 (0, 0))) := ⟨(by rw [hw]; exact (by (with_reducible repeat (first|apply bN_|apply bD_|apply bA_)); refine blk_far ?_ NB845_853.out _; (with_reducible repeat (first|apply bN_|apply bD_|apply bA_)); refine blk_far ?_ NB845_853.out _; (with_reducible repeat (first|apply bN_|apply bD_|apply bA_)); exact BK845.out))⟩; have n2_ : Aside0 (w89.heap[gb853]? = some (.cells #[.int .i64 t848, .slice Ao88 t849.length co88] 46 (0, 0))) := ⟨(by rw [hw]; exact (by (with_reducible repeat (first|apply bN_|apply bD_|apply bA_)); refine blk_put (cs := #[.int .i64 t848, .slice none 0 0]) ?_ 1 _ rfl; (with_reducible repeat (first|apply bN_|apply bD_|apply bA_)); refine blk_put (cs := #[.int .i64 0, .slice none 0 0]) ?_ 0 _ rfl; (with_reducible repeat (first|apply bN_|apply bD_|apply bA_)); exact BK853.out))⟩; have n3_ : Aside0 (Below w.heap.size w w89) := ⟨(by rw [hw]; exact (by repeat (first | (with_reducible first | exact HB.out | apply below_alloc | apply pw_below_drewN | apply below_drew1 | refine below_set ?_ GE845.out | refine below_set ?_ GE853.out) | exact HB.out)))⟩; clear hw; clear HO851; clear BK845; clear BK853; clear HB; have HO851 := n0_; have BK845 := n1_; have BK853 := n2_; have HB := n3_; clear n0_ n1_ n2_ n3_; have hcz90_0 : w89.cell? ⟨gb853, 0, none⟩ = some (.int .i64 t848) := (blk_cell BK853.out 0).trans rfl; have hcz90_1 : w89.cell? ⟨gb853, 1, none⟩ = some (.slice Ao88 t849.length co88) := (blk_cell BK853.out 1).trans rfl; have hfz90_0 := blk_frozen BK853.out 0; have hfz90_1 := blk_frozen BK853.out 1) | ((with_reducible refine gate_callee (f := 24) rfl ?_); refine goesL_ (some 33) rfl rfl Try.func24 (by kernel_rfl) rfl #[.agg #[.int .i64 t848, .slice Ao88 t849.length co88], .slice A2 l2.length c2] rfl (by (try simp only [List.map_toArray, List.map_cons, List.map_nil]); first | done | rfl | (simp only [List.length_drop, List.length_take]; rfl)) ?_; (with_reducible refine (disk_Crash.calls t848 (fun k_ => (k_ ≠ gb845 ∧ k_ ≠ gb853)) _ _ t849 (fun k_ => k_ < w.heap.size) _ _ l2 t854 t855 _ ?side1 ?side2 A9.out).mono ?_); (case side1 => exact HO851.out); (case side2 => exact Kd.V_mk HC2.out (Kd.F_below (Kd.C_F (Kd.heap_int .u64) HR2.out) (by repeat (first | (with_reducible first | exact HB.out | apply below_alloc | apply pw_below_drewN | apply below_drew1 | refine below_set ?_ GE845.out | refine below_set ?_ GE853.out) | exact HB.out)))); rintro e w91 ⟨v856, rfl, ho0, hb⟩; refine ⟨_, rfl, ?_⟩; have n0_ := Aside0.mk (Kd.V_below (by (with_reducible repeat (first|apply vA_|apply vN_|apply vD_)); exact HO851.out) hb); have n1_ := Aside0.mk (Kd.V_lower (Kd.V_mono (ok' := fun k_ => k_ ≠ gb845 ∧ k_ ≠ gb853) ho0 (fun k_ hk_ => ⟨Or.elim hk_ (fun hs_ => Or.elim hs_ (fun hs_ => hs_.1) (fun hs_ => fun e_ => Nat.not_le.2 hs_ (by rw [e_]; exact GW845.out))) (fun hn_ => (Kd.freshB (g := gb845) (by (with_reducible repeat (first|apply bN_|apply bD_|apply bA_)); exact BK845.out) k_ hn_)), Or.elim hk_ (fun hs_ => Or.elim hs_ (fun hs_ => hs_.2) (fun hs_ => fun e_ => Nat.not_le.2 hs_ (by rw [e_]; exact GW853.out))) (fun hn_ => (Kd.freshB (g := gb853) (by (with_reducible repeat (first|apply bN_|apply bD_|apply bA_)); exact BK853.out) k_ hn_))⟩)) (below_size (by repeat (first | (with_reducible first | exact HB.out | apply below_alloc | apply pw_below_drewN | apply below_drew1 | refine below_set ?_ GE845.out | refine below_set ?_ GE853.out) | exact HB.out)))); have n2_ := Aside0.mk (blk_below (g := gb845) (by (with_reducible repeat (first|apply bN_|apply bD_|apply bA_)); exact BK845.out) hb); have n3_ := Aside0.mk (blk_below (g := gb853) (by (with_reducible repeat (first|apply bN_|apply bD_|apply bA_)); exact BK853.out) hb); have n4_ := Aside0.mk (below_step (by repeat (first | (with_reducible first | exact HB.out | apply below_alloc | apply pw_below_drewN | apply below_drew1 | refine below_set ?_ GE845.out | refine below_set ?_ GE853.out) | exact HB.out)) hb); clear HO851; clear BK845; clear BK853; clear HB; have HO851 := n0_; have HO857 := n1_; have BK845 := n2_; have BK853 := n3_; have HB := n4_; clear n0_ n1_ n2_ n3_ n4_; (try clear hb); (try clear hb2); (try clear hk); (try clear hi); (try clear ho0)) | ((with_reducible refine gate_dst (N := 11) rfl ?_); refine box_event ?hg (N := 11) ?hd (cs := #[.int .i64 0, .slice none 0 0]) (t := 46) ?hr ?_; (case hd => rfl); (case hg => rfl); (case hr => first | (go_simp; done) | (go_simp; rfl)); intro gb858 hg w92 hbox hb; have n0_ := Aside0.mk (Kd.V_below (Kd.V_elderB (by (with_reducible repeat (first|apply vA_|apply vN_|apply vD_)); exact HO851.out) gb858 (Nat.le_of_eq hg.symm)) hb); have n1_ := Aside0.mk (Kd.V_below (Kd.V_elderB (by (with_reducible repeat (first|apply vA_|apply vN_|apply vD_)); exact HO857.out) gb858 (Nat.le_of_eq hg.symm)) hb); have n2_ := Aside0.mk (blk_below (g := gb845) (by (with_reducible repeat (first|apply bN_|apply bD_|apply bA_)); exact BK845.out) hb); have n3_ := Aside0.mk (blk_below (g := gb853) (by (with_reducible repeat (first|apply bN_|apply bD_|apply bA_)); exact BK853.out) hb); have n4_ := Aside0.mk (below_step (by repeat (first | (with_reducible first | exact HB.out | apply below_alloc | apply pw_below_drewN | apply below_drew1 | refine below_set ?_ GE845.out | refine below_set ?_ GE853.out) | exact HB.out)) hb); have n5_ := Aside0.mk (hbox); have n6_ := Aside0.mk ((by rw [hg]; exact (below_size (by repeat (first | (with_reducible first | exact HB.out | apply below_alloc | apply pw_below_drewN | apply below_drew1 | refine below_set ?_ GE845.out | refine below_set ?_ GE853.out) | exact HB.out))) : w.heap.size ≤ gb858)); have n7_ := Aside0.mk ((by rw [hg]; exact (below_size (by repeat (first | (with_reducible first | exact HB.out | apply below_alloc | apply pw_below_drewN | apply below_drew1 | refine below_set ?_ GE845.out | refine below_set ?_ GE853.out) | exact HB.out))) : w.heap.size ≤ gb858)); have n8_ := Aside0.mk ((by rw [hg]; exact Nat.ne_of_lt (blk_lt (g := gb845) (by (with_reducible repeat (first|apply bN_|apply bD_|apply bA_)); exact BK845.out)) : gb845 ≠ gb858)); have n9_ := Aside0.mk ((by rw [hg]; exact Nat.ne_of_gt (blk_lt (g := gb845) (by (with_reducible repeat (first|apply bN_|apply bD_|apply bA_)); exact BK845.out)) : gb858 ≠ gb845)); have n10_ := Aside0.mk ((by rw [hg]; exact Nat.ne_of_lt (blk_lt (g := gb853) (by (with_reducible repeat (first|apply bN_|apply bD_|apply bA_)); exact BK853.out)) : gb853 ≠ gb858)); have n11_ := Aside0.mk ((by rw [hg]; exact Nat.ne_of_gt (blk_lt (g := gb853) (by (with_reducible repeat (first|apply bN_|apply bD_|apply bA_)); exact BK853.out)) : gb858 ≠ gb853)); clear HO851; clear HO857; clear BK845; clear BK853; clear HB; have HO851 := n0_; have HO857 := n1_; have BK845 := n2_; have BK853 := n3_; have HB := n4_; have BK858 := n5_; have GW858 := n6_; have GE858 := n7_; have NB845_858 := n8_; have NB858_845 := n9_; have NB853_858 := n10_; have NB858_853 := n11_; clear n0_ n1_ n2_ n3_ n4_ n5_ n6_ n7_ n8_ n9_ n10_ n11_; clear hb hbox hg; have hnb93 := NB858_845.out; have hnc93 := NB845_858.out; have hnb94 := NB858_853.out; have hnc94 := NB853_858.out; have hcz95_0 : w92.cell? ⟨gb858, 0, none⟩ = some (.int .i64 0) := (blk_cell BK858.out 0).trans rfl; have hcz95_1 : w92.cell? ⟨gb858, 1, none⟩ = some (.slice none 0 0) := (blk_cell BK858.out 1).trans rfl; have hfz95_0 := blk_frozen BK858.out 0; have hfz95_1 := blk_frozen BK858.out 1; obtain ⟨Ao96, co96, eo96⟩ := Kd.V_slice HO857.out; subst eo96; have hcz97_0 : w92.cell? ⟨gb845, 0, none⟩ = some (.int .i64 a0_0) := (blk_cell BK845.out 0).trans rfl; have hcz97_1 : w92.cell? ⟨gb845, 1, none⟩ = some (.slice A0_1 l0_1.length c0_1) := (blk_cell BK845.out 1).trans rfl; have hfz97_0 := blk_frozen BK845.out 0; have hfz97_1 := blk_frozen BK845.out 1) | ((with_reducible refine gate_callee (f := 31) rfl ?_); refine goesL_ (some 37) rfl rfl Try.func31 (by kernel_rfl) rfl #[.agg #[.int .i64 a0_0, .slice A0_1 l0_1.length c0_1], .string a1] rfl (by (try simp only [List.map_toArray, List.map_cons, List.map_nil]); first | done | rfl | (simp only [List.length_drop, List.length_take]; rfl)) ?_; (with_reducible refine (disk_Read.calls a0_0 _ _ l0_1 a1 t859 t860 _ ?side1 ?side2 A10.out).mono ?_); (case side1 => exact Kd.C_below HR0_1.out (by repeat (first | (with_reducible first | exact HB.out | apply below_alloc | apply pw_below_drewN | apply below_drew1 | refine below_set ?_ GE845.out | refine below_set ?_ GE853.out | refine below_set ?_ GE858.out) | exact HB.out))); (case side2 => exact HC0_1.out); rintro e w98 ⟨rfl, hb⟩; refine ⟨_, rfl, ?_⟩; have n0_ := Aside0.mk (Kd.V_below (by (with_reducible repeat (first|apply vA_|apply vN_|apply vD_)); exact (Kd.V_mono (Kd.V_far (p := ⟨gb858, 1, none⟩) (Kd.V_far (p := ⟨gb858, 0, none⟩) (Kd.V_mono HO851.out (fun k_ hk => (⟨hk, hk.2⟩ : _ ∧ k_ ≠ gb858))) (fun _ hk => hk.2) (.int .i64 t854)) (fun _ hk => hk.2) (.slice Ao96 t855.length co96)) (fun _ h_ => h_.1))) hb); have n1_ := Aside0.mk (Kd.V_below (by (with_reducible repeat (first|apply vA_|apply vN_|apply vD_)); exact (Kd.V_mono (Kd.V_far (p := ⟨gb858, 1, none⟩) (Kd.V_far (p := ⟨gb858, 0, none⟩) (Kd.V_mono HO857.out (fun k_ hk => (⟨hk, hk.2⟩ : _ ∧ k_ ≠ gb858))) (fun _ hk => hk.2) (.int .i64 t854)) (fun _ hk => hk.2) (.slice Ao96 t855.length co96)) (fun _ h_ => h_.1))) hb); have n2_ := Aside0.mk (blk_below (g := gb845) (o := .cells #[.int .i64 a0_0, .slice A0_1 l0_1.length c0_1] 46 (0, 0)) (by (with_reducible repeat (first|apply bN_|apply bD_|apply bA_)); refine blk_far ?_ NB845_858.out _; (with_reducible repeat (first|apply bN_|apply bD_|apply bA_)); refine blk_far ?_ NB845_858.out _; (with_reducible repeat (first|apply bN_|apply bD_|apply bA_)); exact BK845.out) hb); have n3_ := Aside0.mk (blk_below (g := gb853) (o := .cells #[.int .i64 t848, .slice Ao88 t849.length co88] 46 (0, 0)) (by (with_reducible repeat (first|apply bN_|apply bD_|apply bA_)); refine blk_far ?_ NB853_858.out _; (with_reducible repeat (first|apply bN_|apply bD_|apply bA_)); refine blk_far ?_ NB853_858.out _; (with_reducible repeat (first|apply bN_|apply bD_|apply bA_)); exact BK853.out) hb); have n4_ := Aside0.mk (blk_below (g := gb858) (o := .cells #[.int .i64 t854, .slice Ao96 t855.length co96] 46 (0, 0)) (by (with_reducible repeat (first|apply bN_|apply bD_|apply bA_)); refine blk_put (cs := #[.int .i64 t854, .slice none 0 0]) ?_ 1 _ rfl; (with_reducible repeat (first|apply bN_|apply bD_|apply bA_)); refine blk_put (cs := #[.int .i64 0, .slice none 0 0]) ?_ 0 _ rfl; (with_reducible repeat (first|apply bN_|apply bD_|apply bA_)); exact BK858.out) hb); have n5_ := Aside0.mk (below_step (by repeat (first | (with_reducible first | exact HB.out | apply below_alloc | apply pw_below_drewN | apply below_drew1 | refine below_set ?_ GE845.out | refine below_set ?_ GE853.out | refine below_set ?_ GE858.out) | exact HB.out)) hb); clear HO851; clear HO857; clear BK845; clear BK853; clear BK858; clear HB; have HO851 := n0_; have HO857 := n1_; have BK845 := n2_; have BK853 := n3_; have BK858 := n4_; have HB := n5_; clear n0_ n1_ n2_ n3_ n4_ n5_; (try clear hb); (try clear hb2); (try clear hk); (try clear hi); have hcz99_0 : w98.cell? ⟨gb858, 0, none⟩ = some (.int .i64 t854) := (blk_cell BK858.out 0).trans rfl; have hcz99_1 : w98.cell? ⟨gb858, 1, none⟩ = some (.slice Ao96 t855.length co96) := (blk_cell BK858.out 1).trans rfl; have hfz99_0 := blk_frozen BK858.out 0; have hfz99_1 := blk_frozen BK858.out 1) | ((with_reducible refine gate_callee (f := 31) rfl ?_); refine goesL_ (some 43) rfl rfl Try.func31 (by kernel_rfl) rfl #[.agg #[.int .i64 t854, .slice Ao96 t855.length co96], .string a1] rfl (by (try simp only [List.map_toArray, List.map_cons, List.map_nil]); first | done | rfl | (simp only [List.length_drop, List.length_take]; rfl)) ?_; (with_reducible refine (disk_Read.calls t854 _ _ t855 a1 t861 t862 _ ?side1 ?side2 A11.out).mono ?_); (case side1 => repeat (first | exact (Kd.V_reads' HO857.out).2.2 | (with_reducible refine Kd.C_alloc ?_ _) | (with_reducible refine Kd.C_drewN ?_ _) | (with_reducible refine Kd.C_drew ?_))); (case side2 => exact (Kd.V_reads' HO857.out).2.1); rintro e w100 ⟨rfl, hb⟩; refine ⟨_, rfl, ?_⟩; have n0_ := Aside0.mk (Kd.V_below (by (with_reducible repeat (first|apply vA_|apply vN_|apply vD_)); exact HO851.out) hb); have n1_ := Aside0.mk (Kd.V_below (by (with_reducible repeat (first|apply vA_|apply vN_|apply vD_)); exact HO857.out) hb); have n2_ := Aside0.mk (blk_below (g := gb845) (by (with_reducible repeat (first|apply bN_|apply bD_|apply bA_)); exact BK845.out) hb); have n3_ := Aside0.mk (blk_below (g := gb853) (by (with_reducible repeat (first|apply bN_|apply bD_|apply bA_)); exact BK853.out) hb); have n4_ := Aside0.mk (blk_below (g := gb858) (by (with_reducible repeat (first|apply bN_|apply bD_|apply bA_)); exact BK858.out) hb); have n5_ := Aside0.mk (below_step (by repeat (first | (with_reducible first | exact HB.out | apply below_alloc | apply pw_below_drewN | apply below_drew1 | refine below_set ?_ GE845.out | refine below_set ?_ GE853.out | refine below_set ?_ GE858.out) | exact HB.out)) hb); clear HO851; clear HO857; clear BK845; clear BK853; clear BK858; clear HB; have HO851 := n0_; have HO857 := n1_; have BK845 := n2_; have BK853 := n3_; have BK858 := n4_; have HB := n5_; clear n0_ n1_ n2_ n3_ n4_ n5_; (try clear hb); (try clear hb2); (try clear hk); (try clear hi)))
       have n0_ := Aside0.mk (Kd.V_drew HO851.out)
       have n1_ := Aside0.mk (Kd.V_drew HO857.out)
       have n2_ := Aside0.mk (blk_drew BK845.out)
       have n3_ := Aside0.mk (blk_drew BK853.out)
       have n4_ := Aside0.mk (blk_drew BK858.out)
       have n5_ := Aside0.mk (below_drew1 HB.out)
       clear HO851
       clear HO857
       clear BK845
       clear BK853
       clear BK858
       clear HB
       have HO851 := n0_
       have HO857 := n1_
       have BK845 := n2_
       have BK853 := n3_
       have BK858 := n4_
       have HB := n5_
       clear n0_ n1_ n2_ n3_ n4_ n5_
       refine start_ (n := 29) (S := fun w' => True) (ds := []) #[false, false, false, false, false, false, false, false, false, false, false, false, false, false, false, false, false, false, false, false, false, false, false, false, false, false, false, false, false] (by kernel_rfl) rfl rfl trivial (fun hHeld => ?_); refine with_tabW tallysticklaw15_DiskSafe.tab11 tallysticklaw15_DiskSafe.bits11 (fun HT_ HW_ => ?_)
       generalize w100.drew = w101 at HO851 HO857 BK845 BK853 BK858 HB hHeld ⊢
       refine pure_ (i := 0) (N := some 46) (v := ?_) (a' := ?_) #[true, false, false, false, false, false, false, false, false, false, false, false, false, false, false, false, false, false, false, false, false, false, false, false, false, false, false, false, false] rfl rfl (any_of HT_.out (by kernel_rfl)) (fun _ _ _ h => h) (Or.inl ⟨by rfl, ?_⟩) ?_ ?_
       rotate_left
       ·intro w'
        go_simp
        with_reducible rfl
       rotate_left
       ·simp only [Act.put, List.setIfInBounds_toArray, List.set_cons_zero, List.set_cons_succ, i64_w, i32_w]
        rfl
       refine pure_ (i := 1) (N := some 47) (v := ?_) (a' := ?_) #[true, true, false, false, false, false, false, false, false, false, false, false, false, false, false, false, false, false, false, false, false, false, false, false, false, false, false, false, false] rfl rfl (any_of HT_.out (by kernel_rfl)) (fun _ _ _ h => h) (Or.inl ⟨by rfl, ?_⟩) ?_ ?_
       rotate_left
       ·intro w'
        go_simp
        with_reducible rfl
       rotate_left
       ·simp only [Act.put, List.setIfInBounds_toArray, List.set_cons_zero, List.set_cons_succ, i64_w, i32_w]
        rfl
       refine pure_ (i := 2) (N := some 48) (v := ?_) (a' := ?_) #[true, true, true, false, false, false, false, false, false, false, false, false, false, false, false, false, false, false, false, false, false, false, false, false, false, false, false, false, false] rfl rfl (any_of HT_.out (by kernel_rfl)) (fun _ _ _ h => h) (Or.inl ⟨by rfl, ?_⟩) ?_ ?_
       rotate_left
       ·intro w'
        go_simp
        with_reducible rfl
       rotate_left
       ·simp only [Act.put, List.setIfInBounds_toArray, List.set_cons_zero, List.set_cons_succ, i64_w, i32_w]
        rfl
       refine pure_ (i := 3) (N := some 49) (v := ?_) (a' := ?_) #[true, true, true, true, false, false, false, false, false, false, false, false, false, false, false, false, false, false, false, false, false, false, false, false, false, false, false, false, false] rfl rfl (any_of HT_.out (by kernel_rfl)) (fun _ _ _ h => h) (Or.inl ⟨by rfl, ?_⟩) ?_ ?_
       rotate_left
       ·intro w'
        go_simp
        with_reducible rfl
       rotate_left
       ·simp only [Act.put, List.setIfInBounds_toArray, List.set_cons_zero, List.set_cons_succ, i64_w, i32_w]
        rfl
       refine pure_ (i := 4) (N := some 50) (v := ?_) (a' := ?_) #[true, true, true, true, true, false, false, false, false, false, false, false, false, false, false, false, false, false, false, false, false, false, false, false, false, false, false, false, false] rfl rfl (any_of HT_.out (by kernel_rfl)) (fun _ _ _ h => h) (Or.inl ⟨by rfl, ?_⟩) ?_ ?_
       rotate_left
       ·intro w'
        go_simp
        with_reducible rfl
       rotate_left
       ·simp only [Act.put, List.setIfInBounds_toArray, List.set_cons_zero, List.set_cons_succ, i64_w, i32_w]
        rfl
       refine pure_ (i := 5) (N := some 51) (v := ?_) (a' := ?_) #[true, true, true, true, true, true, false, false, false, false, false, false, false, false, false, false, false, false, false, false, false, false, false, false, false, false, false, false, false] rfl rfl (any_of HT_.out (by kernel_rfl)) (fun _ _ _ h => h) (Or.inl ⟨by rfl, ?_⟩) ?_ ?_
       rotate_left
       ·intro w'
        go_simp
        with_reducible rfl
       rotate_left
       ·simp only [Act.put, List.setIfInBounds_toArray, List.set_cons_zero, List.set_cons_succ, i64_w, i32_w]
        rfl
       refine pure_ (i := 6) (N := some 52) (v := ?_) (a' := ?_) #[true, true, true, true, true, true, true, false, false, false, false, false, false, false, false, false, false, false, false, false, false, false, false, false, false, false, false, false, false] rfl rfl (any_of HT_.out (by kernel_rfl)) (fun _ _ _ h => h) (Or.inl ⟨by rfl, ?_⟩) ?_ ?_
       rotate_left
       ·intro w'
        go_simp
        with_reducible rfl
       rotate_left
       ·simp only [Act.put, List.setIfInBounds_toArray, List.set_cons_zero, List.set_cons_succ, i64_w, i32_w]
        rfl
       refine pure_ (i := 7) (N := some 53) (v := ?_) (a' := ?_) #[true, true, true, true, true, true, true, true, false, false, false, false, false, false, false, false, false, false, false, false, false, false, false, false, false, false, false, false, false] rfl rfl (any_of HT_.out (by kernel_rfl)) (fun _ _ _ h => h) (Or.inl ⟨by rfl, ?_⟩) ?_ ?_
       rotate_left
       ·intro w'
        go_simp
        with_reducible rfl
       rotate_left
       ·simp only [Act.put, List.setIfInBounds_toArray, List.set_cons_zero, List.set_cons_succ, i64_w, i32_w]
        rfl
       refine pure_ (i := 8) (N := some 54) (v := ?_) (a' := ?_) #[true, true, true, true, true, true, true, true, true, false, false, false, false, false, false, false, false, false, false, false, false, false, false, false, false, false, false, false, false] rfl rfl (any_of HT_.out (by kernel_rfl)) (fun _ _ _ h => h) (Or.inl ⟨by rfl, ?_⟩) ?_ ?_
       rotate_left
       ·intro w'
        go_simp
        with_reducible rfl
       rotate_left
       ·simp only [Act.put, List.setIfInBounds_toArray, List.set_cons_zero, List.set_cons_succ, i64_w, i32_w]
        rfl
       refine pure_ (i := 9) (N := some 55) (v := ?_) (a' := ?_) #[true, true, true, true, true, true, true, true, true, true, false, false, false, false, false, false, false, false, false, false, false, false, false, false, false, false, false, false, false] rfl rfl (any_of HT_.out (by kernel_rfl)) (fun _ _ _ h => h) (Or.inl ⟨by rfl, ?_⟩) ?_ ?_
       rotate_left
       ·intro w'
        go_simp
        with_reducible rfl
       rotate_left
       ·simp only [Act.put, List.setIfInBounds_toArray, List.set_cons_zero, List.set_cons_succ, i64_w, i32_w]
        rfl
       refine pure_ (i := 10) (N := some 56) (v := ?_) (a' := ?_) #[true, true, true, true, true, true, true, true, true, true, true, false, false, false, false, false, false, false, false, false, false, false, false, false, false, false, false, false, false] rfl rfl (any_of HT_.out (by kernel_rfl)) (fun _ _ _ h => h) (Or.inl ⟨by rfl, ?_⟩) ?_ ?_
       rotate_left
       ·intro w'
        go_simp
        with_reducible rfl
       rotate_left
       ·simp only [Act.put, List.setIfInBounds_toArray, List.set_cons_zero, List.set_cons_succ, i64_w, i32_w]
        rfl
       refine pure_ (i := 11) (N := some 57) (v := ?_) (a' := ?_) #[true, true, true, true, true, true, true, true, true, true, true, true, false, false, false, false, false, false, false, false, false, false, false, false, false, false, false, false, false] rfl rfl (any_of HT_.out (by kernel_rfl)) (fun _ _ _ h => h) (Or.inl ⟨by rfl, ?_⟩) ?_ ?_
       rotate_left
       ·intro w'
        go_simp
        with_reducible rfl
       rotate_left
       ·simp only [Act.put, List.setIfInBounds_toArray, List.set_cons_zero, List.set_cons_succ, i64_w, i32_w]
        rfl
       refine pure_ (i := 12) (N := some 58) (v := ?_) (a' := ?_) #[true, true, true, true, true, true, true, true, true, true, true, true, true, false, false, false, false, false, false, false, false, false, false, false, false, false, false, false, false] rfl rfl (any_of HT_.out (by kernel_rfl)) (fun _ _ _ h => h) (Or.inl ⟨by rfl, ?_⟩) ?_ ?_
       rotate_left
       ·intro w'
        go_simp
        with_reducible rfl
       rotate_left
       ·simp only [Act.put, List.setIfInBounds_toArray, List.set_cons_zero, List.set_cons_succ, i64_w, i32_w]
        rfl
       refine pure_ (i := 13) (N := some 59) (v := ?_) (a' := ?_) #[true, true, true, true, true, true, true, true, true, true, true, true, true, true, false, false, false, false, false, false, false, false, false, false, false, false, false, false, false] rfl rfl (any_of HT_.out (by kernel_rfl)) (fun _ _ _ h => h) (Or.inl ⟨by rfl, ?_⟩) ?_ ?_
       rotate_left
       ·intro w'
        go_simp
        with_reducible rfl
       rotate_left
       ·simp only [Act.put, List.setIfInBounds_toArray, List.set_cons_zero, List.set_cons_succ, i64_w, i32_w]
        rfl
       refine pure_ (i := 14) (N := some 60) (v := ?_) (a' := ?_) #[true, true, true, true, true, true, true, true, true, true, true, true, true, true, true, false, false, false, false, false, false, false, false, false, false, false, false, false, false] rfl rfl (any_of HT_.out (by kernel_rfl)) (fun _ _ _ h => h) (Or.inl ⟨by rfl, ?_⟩) ?_ ?_
       rotate_left
       ·intro w'
        go_simp
        with_reducible rfl
       rotate_left
       ·simp only [Act.put, List.setIfInBounds_toArray, List.set_cons_zero, List.set_cons_succ, i64_w, i32_w]
        rfl
       refine pure_ (i := 15) (N := some 61) (v := undef) (a' := ?_) #[true, true, true, true, true, true, true, true, true, true, true, true, true, true, true, true, false, false, false, false, false, false, false, false, false, false, false, false, false] rfl rfl (any_of HT_.out (by kernel_rfl)) (fun _ _ _ h => h) (Or.inr ⟨by rfl, rfl⟩) ?_ ?_
       rotate_left
       ·simp only [Act.put, List.setIfInBounds_toArray, List.set_cons_zero, List.set_cons_succ, i64_w, i32_w]
        rfl
       refine pure_ (i := 16) (N := some 62) (v := undef) (a' := ?_) #[true, true, true, true, true, true, true, true, true, true, true, true, true, true, true, true, true, false, false, false, false, false, false, false, false, false, false, false, false] rfl rfl (any_of HT_.out (by kernel_rfl)) (fun _ _ _ h => h) (Or.inr ⟨by rfl, rfl⟩) ?_ ?_
       rotate_left
       ·simp only [Act.put, List.setIfInBounds_toArray, List.set_cons_zero, List.set_cons_succ, i64_w, i32_w]
        rfl
       refine pure_ (i := 17) (N := some 63) (v := undef) (a' := ?_) #[true, true, true, true, true, true, true, true, true, true, true, true, true, true, true, true, true, true, false, false, false, false, false, false, false, false, false, false, false] rfl rfl (any_of HT_.out (by kernel_rfl)) (fun _ _ _ h => h) (Or.inr ⟨by rfl, rfl⟩) ?_ ?_
       rotate_left
       ·simp only [Act.put, List.setIfInBounds_toArray, List.set_cons_zero, List.set_cons_succ, i64_w, i32_w]
        rfl
       refine pure_ (i := 18) (N := some 64) (v := undef) (a' := ?_) #[true, true, true, true, true, true, true, true, true, true, true, true, true, true, true, true, true, true, true, false, false, false, false, false, false, false, false, false, false] rfl rfl (any_of HT_.out (by kernel_rfl)) (fun _ _ _ h => h) (Or.inr ⟨by rfl, rfl⟩) ?_ ?_
       rotate_left
       ·simp only [Act.put, List.setIfInBounds_toArray, List.set_cons_zero, List.set_cons_succ, i64_w, i32_w]
        rfl
       refine pure_ (i := 19) (N := some 65) (v := undef) (a' := ?_) #[true, true, true, true, true, true, true, true, true, true, true, true, true, true, true, true, true, true, true, true, false, false, false, false, false, false, false, false, false] rfl rfl (any_of HT_.out (by kernel_rfl)) (fun _ _ _ h => h) (Or.inr ⟨by rfl, rfl⟩) ?_ ?_
       rotate_left
       ·simp only [Act.put, List.setIfInBounds_toArray, List.set_cons_zero, List.set_cons_succ, i64_w, i32_w]
        rfl
       refine pure_ (i := 20) (N := some 66) (v := ?_) (a' := ?_) #[true, true, true, true, true, true, true, true, true, true, true, true, true, true, true, true, true, true, true, true, true, false, false, false, false, false, false, false, false] rfl rfl (any_of HT_.out (by kernel_rfl)) (fun _ _ _ h => h) (Or.inl ⟨by rfl, ?_⟩) ?_ ?_
       rotate_left
       ·intro w'
        go_simp
        with_reducible rfl
       rotate_left
       ·simp only [Act.put, List.setIfInBounds_toArray, List.set_cons_zero, List.set_cons_succ, i64_w, i32_w]
        rfl
       refine pure_ (i := 21) (N := some 67) (v := ?_) (a' := ?_) #[true, true, true, true, true, true, true, true, true, true, true, true, true, true, true, true, true, true, true, true, true, true, false, false, false, false, false, false, false] rfl rfl (any_of HT_.out (by kernel_rfl)) (fun _ _ _ h => h) (Or.inl ⟨by rfl, ?_⟩) ?_ ?_
       rotate_left
       ·intro w'
        go_simp
        with_reducible rfl
       rotate_left
       ·simp only [Act.put, List.setIfInBounds_toArray, List.set_cons_zero, List.set_cons_succ, i64_w, i32_w]
        rfl
       refine pure_ (i := 22) (N := some 68) (v := undef) (a' := ?_) #[true, true, true, true, true, true, true, true, true, true, true, true, true, true, true, true, true, true, true, true, true, true, true, false, false, false, false, false, false] rfl rfl (any_of HT_.out (by kernel_rfl)) (fun _ _ _ h => h) (Or.inr ⟨by rfl, rfl⟩) ?_ ?_
       rotate_left
       ·simp only [Act.put, List.setIfInBounds_toArray, List.set_cons_zero, List.set_cons_succ, i64_w, i32_w]
        rfl
       refine pure_ (i := 23) (N := some 69) (v := undef) (a' := ?_) #[true, true, true, true, true, true, true, true, true, true, true, true, true, true, true, true, true, true, true, true, true, true, true, true, false, false, false, false, false] rfl rfl (any_of HT_.out (by kernel_rfl)) (fun _ _ _ h => h) (Or.inr ⟨by rfl, rfl⟩) ?_ ?_
       rotate_left
       ·simp only [Act.put, List.setIfInBounds_toArray, List.set_cons_zero, List.set_cons_succ, i64_w, i32_w]
        rfl
       refine pure_ (i := 24) (N := some 70) (v := undef) (a' := ?_) #[true, true, true, true, true, true, true, true, true, true, true, true, true, true, true, true, true, true, true, true, true, true, true, true, true, false, false, false, false] rfl rfl (any_of HT_.out (by kernel_rfl)) (fun _ _ _ h => h) (Or.inr ⟨by rfl, rfl⟩) ?_ ?_
       rotate_left
       ·simp only [Act.put, List.setIfInBounds_toArray, List.set_cons_zero, List.set_cons_succ, i64_w, i32_w]
        rfl
       refine pure_ (i := 25) (N := some 71) (v := undef) (a' := ?_) #[true, true, true, true, true, true, true, true, true, true, true, true, true, true, true, true, true, true, true, true, true, true, true, true, true, true, false, false, false] rfl rfl (any_of HT_.out (by kernel_rfl)) (fun _ _ _ h => h) (Or.inr ⟨by rfl, rfl⟩) ?_ ?_
       rotate_left
       ·simp only [Act.put, List.setIfInBounds_toArray, List.set_cons_zero, List.set_cons_succ, i64_w, i32_w]
        rfl
       refine pure_ (i := 26) (N := some 72) (v := undef) (a' := ?_) #[true, true, true, true, true, true, true, true, true, true, true, true, true, true, true, true, true, true, true, true, true, true, true, true, true, true, true, false, false] rfl rfl (any_of HT_.out (by kernel_rfl)) (fun _ _ _ h => h) (Or.inr ⟨by rfl, rfl⟩) ?_ ?_
       rotate_left
       ·simp only [Act.put, List.setIfInBounds_toArray, List.set_cons_zero, List.set_cons_succ, i64_w, i32_w]
        rfl
       refine pure_ (i := 27) (N := some 73) (v := ?_) (a' := ?_) #[true, true, true, true, true, true, true, true, true, true, true, true, true, true, true, true, true, true, true, true, true, true, true, true, true, true, true, true, false] rfl rfl (any_of HT_.out (by kernel_rfl)) (fun _ _ _ h => h) (Or.inl ⟨by rfl, ?_⟩) ?_ ?_
       rotate_left
       ·intro w'
        go_simp
        with_reducible rfl
       rotate_left
       ·simp only [Act.put, List.setIfInBounds_toArray, List.set_cons_zero, List.set_cons_succ, i64_w, i32_w]
        rfl
       refine pure_ (i := 28) (N := some 6) (v := ?_) (a' := ?_) #[true, true, true, true, true, true, true, true, true, true, true, true, true, true, true, true, true, true, true, true, true, true, true, true, true, true, true, true, true] rfl rfl (any_of HT_.out (by kernel_rfl)) (fun _ _ _ h => h) (Or.inl ⟨by rfl, ?_⟩) ?_ ?_
       rotate_left
       ·intro w'
        go_simp
        with_reducible rfl
       rotate_left
       ·simp only [Act.put, List.setIfInBounds_toArray, List.set_cons_zero, List.set_cons_succ, i64_w, i32_w]
        rfl
       refine done_ (done_of HT_.out (by kernel_rfl)) ?_
       try go_wp2
       go_ret
       exact ⟨by first | rfl | (simp [errW_none, errW_some] <;> rfl) | (simp [*, errW_none, errW_some] <;> rfl), by repeat (first | (with_reducible first | exact HB.out | apply below_alloc | apply pw_below_drewN | apply below_drew1 | refine below_set ?_ GE845.out | refine below_set ?_ GE853.out | refine below_set ?_ GE858.out) | exact HB.out)⟩
     ·rw [if_neg c14] at H
      have c14b0 : (t862 == 0) = false := beq_eq_false_iff_ne.mpr c14
      have c14b1 : (t862 != 0) = true := bne_iff_ne.mpr c14
      obtain rfl := Option.some.inj H
      go_enter Try.func11, Try.ntmps11
      try go_wp2_with (first | ((with_reducible refine gate_dst (N := 3) rfl ?_); refine box_event ?hg (N := 3) ?hd (cs := #[.int .i64 a0_0, .slice A0_1 l0_1.length c0_1]) (t := 46) ?hr ?_; (case hd => rfl); (case hg => rfl); (case hr => first | (go_simp; done) | (go_simp; rfl)); intro gb845 hg w102 hbox hb; have n0_ := Aside0.mk (below_step (by repeat (first | (with_reducible first | exact HB.out | apply below_alloc | apply pw_below_drewN | apply below_drew1) | exact HB.out)) hb); have n1_ := Aside0.mk (hbox); have n2_ := Aside0.mk ((by rw [hg]; exact (below_size (by repeat (first | (with_reducible first | exact HB.out | apply below_alloc | apply pw_below_drewN | apply below_drew1) | exact HB.out))) : w.heap.size ≤ gb845)); have n3_ := Aside0.mk ((by rw [hg]; exact (below_size (by repeat (first | (with_reducible first | exact HB.out | apply below_alloc | apply pw_below_drewN | apply below_drew1) | exact HB.out))) : w.heap.size ≤ gb845)); clear HB; have HB := n0_; have BK845 := n1_; have GW845 := n2_; have GE845 := n3_; clear n0_ n1_ n2_ n3_; clear hb hbox hg) | ((with_reducible refine gate_callee (f := 20) rfl ?_); refine goesL_ (some 16) rfl rfl Try.func20 (by kernel_rfl) rfl #[] rfl (by (try simp only [List.map_toArray, List.map_cons, List.map_nil]); first | done | rfl | (simp only [List.length_drop, List.length_take]; rfl)) ?_; (with_reducible refine (tallysticklaw15_shown.calls k  true _ A4.out).mono ?_); rintro e w103 ⟨rfl, hb⟩; refine ⟨_, rfl, ?_⟩; have n0_ := Aside0.mk (blk_below (g := gb845) (by (with_reducible repeat (first|apply bN_|apply bD_|apply bA_)); exact BK845.out) hb); have n1_ := Aside0.mk (below_step (by repeat (first | (with_reducible first | exact HB.out | apply below_alloc | apply pw_below_drewN | apply below_drew1 | refine below_set ?_ GE845.out) | exact HB.out)) hb); clear BK845; clear HB; have BK845 := n0_; have HB := n1_; clear n0_ n1_; (try clear hb); (try clear hb2); (try clear hk); (try clear hi); have hcz104_0 : w103.cell? ⟨gb845, 0, none⟩ = some (.int .i64 a0_0) := (blk_cell BK845.out 0).trans rfl; have hcz104_1 : w103.cell? ⟨gb845, 1, none⟩ = some (.slice A0_1 l0_1.length c0_1) := (blk_cell BK845.out 1).trans rfl; have hfz104_0 := blk_frozen BK845.out 0; have hfz104_1 := blk_frozen BK845.out 1) | ((with_reducible refine gate_callee (f := 21) rfl ?_); refine goesL_ (some 18) rfl rfl Try.func21 (by kernel_rfl) rfl #[.agg #[.int .i64 a0_0, .slice A0_1 l0_1.length c0_1]] rfl (by (try simp only [List.map_toArray, List.map_cons, List.map_nil]); first | done | rfl | (simp only [List.length_drop, List.length_take]; rfl)) ?_; (with_reducible refine (tallystickref15_Right.calls k a0_0 _ _ l0_1 true _ ?side1 ?side2 A5.out).mono ?_); (case side1 => repeat (first | exact (Kd.C_below HR0_1.out HB.out) | (with_reducible refine Kd.C_alloc ?_ _) | (with_reducible refine Kd.C_drewN ?_ _) | (with_reducible refine Kd.C_drew ?_))); (case side2 => exact HC0_1.out); rintro e w105 ⟨rfl, hb⟩; refine ⟨_, rfl, ?_⟩; have n0_ := Aside0.mk (blk_below (g := gb845) (by (with_reducible repeat (first|apply bN_|apply bD_|apply bA_)); exact BK845.out) hb); have n1_ := Aside0.mk (below_step (by repeat (first | (with_reducible first | exact HB.out | apply below_alloc | apply pw_below_drewN | apply below_drew1 | refine below_set ?_ GE845.out) | exact HB.out)) hb); clear BK845; clear HB; have BK845 := n0_; have HB := n1_; clear n0_ n1_; (try clear hb); (try clear hb2); (try clear hk); (try clear hi); have hcz106_0 : w105.cell? ⟨gb845, 0, none⟩ = some (.int .i64 a0_0) := (blk_cell BK845.out 0).trans rfl; have hcz106_1 : w105.cell? ⟨gb845, 1, none⟩ = some (.slice A0_1 l0_1.length c0_1) := (blk_cell BK845.out 1).trans rfl; have hfz106_0 := blk_frozen BK845.out 0; have hfz106_1 := blk_frozen BK845.out 1) | ((with_reducible refine gate_callee (f := 32) rfl ?_); refine goesL_ (some 25) rfl rfl Try.func32 (by kernel_rfl) rfl #[.agg #[.int .i64 a0_0, .slice A0_1 l0_1.length c0_1], .string a1] rfl (by (try simp only [List.map_toArray, List.map_cons, List.map_nil]); first | done | rfl | (simp only [List.length_drop, List.length_take]; rfl)) ?_; (with_reducible refine (disk_Sync.calls a0_0 (fun k_ => k_ < w.heap.size) _ _ l0_1 a1 t848 t849 t852 _ ?side1 A7.out).mono ?_); (case side1 => exact Kd.V_mk HC0_1.out (Kd.F_below (Kd.C_F k55_heap HR0_1.out) (by repeat (first | (with_reducible first | exact HB.out | apply below_alloc | apply pw_below_drewN | apply below_drew1 | refine below_set ?_ GE845.out) | exact HB.out)))); rintro e w107 ⟨v850, rfl, ho0, hb⟩; refine ⟨_, rfl, ?_⟩; have n0_ := Aside0.mk (Kd.V_lower (Kd.V_mono (ok' := fun k_ => k_ ≠ gb845) ho0 (fun k_ hk_ => Or.elim hk_ (fun hs_ => fun e_ => Nat.not_le.2 hs_ (by rw [e_]; exact GW845.out)) (fun hn_ => (Kd.freshB (g := gb845) (by (with_reducible repeat (first|apply bN_|apply bD_|apply bA_)); exact BK845.out) k_ hn_)))) (below_size (by repeat (first | (with_reducible first | exact HB.out | apply below_alloc | apply pw_below_drewN | apply below_drew1 | refine below_set ?_ GE845.out) | exact HB.out)))); have n1_ := Aside0.mk (blk_below (g := gb845) (by (with_reducible repeat (first|apply bN_|apply bD_|apply bA_)); exact BK845.out) hb); have n2_ := Aside0.mk (below_step (by repeat (first | (with_reducible first | exact HB.out | apply below_alloc | apply pw_below_drewN | apply below_drew1 | refine below_set ?_ GE845.out) | exact HB.out)) hb); clear BK845; clear HB; have HO851 := n0_; have BK845 := n1_; have HB := n2_; clear n0_ n1_ n2_; (try clear hb); (try clear hb2); (try clear hk); (try clear hi); (try clear ho0)) | ((with_reducible refine gate_dst (N := 9) rfl ?_); refine box_event ?hg (N := 9) ?hd (cs := #[.int .i64 0, .slice none 0 0]) (t := 46) ?hr ?_; (case hd => rfl); (case hg => rfl); (case hr => first | (go_simp; done) | (go_simp; rfl)); intro gb853 hg w108 hbox hb; have n0_ := Aside0.mk (Kd.V_below (Kd.V_elderB (by (with_reducible repeat (first|apply vA_|apply vN_|apply vD_)); exact HO851.out) gb853 (Nat.le_of_eq hg.symm)) hb); have n1_ := Aside0.mk (blk_below (g := gb845) (by (with_reducible repeat (first|apply bN_|apply bD_|apply bA_)); exact BK845.out) hb); have n2_ := Aside0.mk (below_step (by repeat (first | (with_reducible first | exact HB.out | apply below_alloc | apply pw_below_drewN | apply below_drew1 | refine below_set ?_ GE845.out) | exact HB.out)) hb); have n3_ := Aside0.mk (hbox); have n4_ := Aside0.mk ((by rw [hg]; exact (below_size (by repeat (first | (with_reducible first | exact HB.out | apply below_alloc | apply pw_below_drewN | apply below_drew1 | refine below_set ?_ GE845.out) | exact HB.out))) : w.heap.size ≤ gb853)); have n5_ := Aside0.mk ((by rw [hg]; exact (below_size (by repeat (first | (with_reducible first | exact HB.out | apply below_alloc | apply pw_below_drewN | apply below_drew1 | refine below_set ?_ GE845.out) | exact HB.out))) : w.heap.size ≤ gb853)); have n6_ := Aside0.mk ((by rw [hg]; exact Nat.ne_of_lt (blk_lt (g := gb845) (by (with_reducible repeat (first|apply bN_|apply bD_|apply bA_)); exact BK845.out)) : gb845 ≠ gb853)); have n7_ := Aside0.mk ((by rw [hg]; exact Nat.ne_of_gt (blk_lt (g := gb845) (by (with_reducible repeat (first|apply bN_|apply bD_|apply bA_)); exact BK845.out)) : gb853 ≠ gb845)); clear HO851; clear BK845; clear HB; have HO851 := n0_; have BK845 := n1_; have HB := n2_; have BK853 := n3_; have GW853 := n4_; have GE853 := n5_; have NB845_853 := n6_; have NB853_845 := n7_; clear n0_ n1_ n2_ n3_ n4_ n5_ n6_ n7_; clear hb hbox hg; have hnb109 := NB853_845.out; have hnc109 := NB845_853.out; have hcz110_0 : w108.cell? ⟨gb853, 0, none⟩ = some (.int .i64 0) := (blk_cell BK853.out 0).trans rfl; have hcz110_1 : w108.cell? ⟨gb853, 1, none⟩ = some (.slice none 0 0) := (blk_cell BK853.out 1).trans rfl; have hfz110_0 := blk_frozen BK853.out 0; have hfz110_1 := blk_frozen BK853.out 1; obtain ⟨Ao111, co111, eo111⟩ := Kd.V_slice HO851.out; subst eo111) | ((with_reducible refine gate_store (t := 46) (p := 9) rfl ?_); refine store_event (t := 46) (p := 9) (v := ?vo_w112) (w1 := ((w108.setCell ⟨gb853, 0, none⟩ (.int .i64 t848)).setCell ⟨gb853, 1, none⟩ (.slice Ao111 t849.length co111))) ?hg ?ho ?hn ?hr ?_; (case ho => rfl); (case hg => rfl); (case hn => rfl); (case hr => first | (go_simp; done) | (go_simp; rfl)); intro w112 hw; have n0_ : Aside0 (Kd.V k55 55 w112 w.heap.size (fun k_ => k_ ≠ gb845 ∧ k_ ≠ gb853) (.slice Ao111 t849.length co111) t849) := ⟨(by rw [hw]; exact (by (with_reducible repeat (first|apply vA_|apply vN_|apply vD_)); exact Kd.V_mono (Kd.V_far (p := ⟨gb853, 1, none⟩) (Kd.V_far (p := ⟨gb853, 0, none⟩) (Kd.V_mono HO851.out (fun k_ hk => (⟨hk, hk.2⟩ : _ ∧ k_ ≠ gb853))) (fun _ hk => hk.2) (.int .i64 t848)) (fun _ hk => hk.2) (.slice Ao111 t849.length co111)) (fun _ hk => ⟨hk.1.1, hk.1.2⟩)))⟩; have n1_ : Aside0 (w112.heap[gb845]? = some (.cells #[.int .i64 a0_0, .slice A0_1 l0_1.length c0_1] 46 (0, 0))) := ⟨(by rw [hw]; exact (by (with_reducible repeat (first|apply bN_|apply bD_|apply bA_)); refine blk_far ?_ NB845_853.out _; (with_reducible repeat (first|apply bN_|apply bD_|apply bA_)); refine blk_far ?_ NB845_853.out _; (with_reducible repeat (first|apply bN_|apply bD_|apply bA_)); exact BK845.out))⟩; have n2_ : Aside0 (w112.heap[gb853]? = some (.cells #[.int .i64 t848, .slice Ao111 t849.length co111] 46 (0, 0))) := ⟨(by rw [hw]; exact (by (with_reducible repeat (first|apply bN_|apply bD_|apply bA_)); refine blk_put (cs := #[.int .i64 t848, .slice none 0 0]) ?_ 1 _ rfl; (with_reducible repeat (first|apply bN_|apply bD_|apply bA_)); refine blk_put (cs := #[.int .i64 0, .slice none 0 0]) ?_ 0 _ rfl; (with_reducible repeat (first|apply bN_|apply bD_|apply bA_)); exact BK853.out))⟩; have n3_ : Aside0 (Below w.heap.size w w112) := ⟨(by rw [hw]; exact (by repeat (first | (with_reducible first | exact HB.out | apply below_alloc | apply pw_below_drewN | apply below_drew1 | refine below_set ?_ GE845.out | refine below_set ?_ GE853.out) | exact HB.out)))⟩; clear hw; clear HO851; clear BK845; clear BK853; clear HB; have HO851 := n0_; have BK845 := n1_; have BK853 := n2_; have HB := n3_; clear n0_ n1_ n2_ n3_; have hcz113_0 : w112.cell? ⟨gb853, 0, none⟩ = some (.int .i64 t848) := (blk_cell BK853.out 0).trans rfl; have hcz113_1 : w112.cell? ⟨gb853, 1, none⟩ = some (.slice Ao111 t849.length co111) := (blk_cell BK853.out 1).trans rfl; have hfz113_0 := blk_frozen BK853.out 0; have hfz113_1 := blk_frozen BK853.out 1) | ((with_reducible refine gate_callee (f := 24) rfl ?_); refine goesL_ (some 33) rfl rfl Try.func24 (by kernel_rfl) rfl #[.agg #[.int .i64 t848, .slice Ao111 t849.length co111], .slice A2 l2.length c2] rfl (by (try simp only [List.map_toArray, List.map_cons, List.map_nil]); first | done | rfl | (simp only [List.length_drop, List.length_take]; rfl)) ?_; (with_reducible refine (disk_Crash.calls t848 (fun k_ => (k_ ≠ gb845 ∧ k_ ≠ gb853)) _ _ t849 (fun k_ => k_ < w.heap.size) _ _ l2 t854 t855 _ ?side1 ?side2 A9.out).mono ?_); (case side1 => exact HO851.out); (case side2 => exact Kd.V_mk HC2.out (Kd.F_below (Kd.C_F (Kd.heap_int .u64) HR2.out) (by repeat (first | (with_reducible first | exact HB.out | apply below_alloc | apply pw_below_drewN | apply below_drew1 | refine below_set ?_ GE845.out | refine below_set ?_ GE853.out) | exact HB.out)))); rintro e w114 ⟨v856, rfl, ho0, hb⟩; refine ⟨_, rfl, ?_⟩; have n0_ := Aside0.mk (Kd.V_below (by (with_reducible repeat (first|apply vA_|apply vN_|apply vD_)); exact HO851.out) hb); have n1_ := Aside0.mk (Kd.V_lower (Kd.V_mono (ok' := fun k_ => k_ ≠ gb845 ∧ k_ ≠ gb853) ho0 (fun k_ hk_ => ⟨Or.elim hk_ (fun hs_ => Or.elim hs_ (fun hs_ => hs_.1) (fun hs_ => fun e_ => Nat.not_le.2 hs_ (by rw [e_]; exact GW845.out))) (fun hn_ => (Kd.freshB (g := gb845) (by (with_reducible repeat (first|apply bN_|apply bD_|apply bA_)); exact BK845.out) k_ hn_)), Or.elim hk_ (fun hs_ => Or.elim hs_ (fun hs_ => hs_.2) (fun hs_ => fun e_ => Nat.not_le.2 hs_ (by rw [e_]; exact GW853.out))) (fun hn_ => (Kd.freshB (g := gb853) (by (with_reducible repeat (first|apply bN_|apply bD_|apply bA_)); exact BK853.out) k_ hn_))⟩)) (below_size (by repeat (first | (with_reducible first | exact HB.out | apply below_alloc | apply pw_below_drewN | apply below_drew1 | refine below_set ?_ GE845.out | refine below_set ?_ GE853.out) | exact HB.out)))); have n2_ := Aside0.mk (blk_below (g := gb845) (by (with_reducible repeat (first|apply bN_|apply bD_|apply bA_)); exact BK845.out) hb); have n3_ := Aside0.mk (blk_below (g := gb853) (by (with_reducible repeat (first|apply bN_|apply bD_|apply bA_)); exact BK853.out) hb); have n4_ := Aside0.mk (below_step (by repeat (first | (with_reducible first | exact HB.out | apply below_alloc | apply pw_below_drewN | apply below_drew1 | refine below_set ?_ GE845.out | refine below_set ?_ GE853.out) | exact HB.out)) hb); clear HO851; clear BK845; clear BK853; clear HB; have HO851 := n0_; have HO857 := n1_; have BK845 := n2_; have BK853 := n3_; have HB := n4_; clear n0_ n1_ n2_ n3_ n4_; (try clear hb); (try clear hb2); (try clear hk); (try clear hi); (try clear ho0)) | ((with_reducible refine gate_dst (N := 11) rfl ?_); refine box_event ?hg (N := 11) ?hd (cs := #[.int .i64 0, .slice none 0 0]) (t := 46) ?hr ?_; (case hd => rfl); (case hg => rfl); (case hr => first | (go_simp; done) | (go_simp; rfl)); intro gb858 hg w115 hbox hb; have n0_ := Aside0.mk (Kd.V_below (Kd.V_elderB (by (with_reducible repeat (first|apply vA_|apply vN_|apply vD_)); exact HO851.out) gb858 (Nat.le_of_eq hg.symm)) hb); have n1_ := Aside0.mk (Kd.V_below (Kd.V_elderB (by (with_reducible repeat (first|apply vA_|apply vN_|apply vD_)); exact HO857.out) gb858 (Nat.le_of_eq hg.symm)) hb); have n2_ := Aside0.mk (blk_below (g := gb845) (by (with_reducible repeat (first|apply bN_|apply bD_|apply bA_)); exact BK845.out) hb); have n3_ := Aside0.mk (blk_below (g := gb853) (by (with_reducible repeat (first|apply bN_|apply bD_|apply bA_)); exact BK853.out) hb); have n4_ := Aside0.mk (below_step (by repeat (first | (with_reducible first | exact HB.out | apply below_alloc | apply pw_below_drewN | apply below_drew1 | refine below_set ?_ GE845.out | refine below_set ?_ GE853.out) | exact HB.out)) hb); have n5_ := Aside0.mk (hbox); have n6_ := Aside0.mk ((by rw [hg]; exact (below_size (by repeat (first | (with_reducible first | exact HB.out | apply below_alloc | apply pw_below_drewN | apply below_drew1 | refine below_set ?_ GE845.out | refine below_set ?_ GE853.out) | exact HB.out))) : w.heap.size ≤ gb858)); have n7_ := Aside0.mk ((by rw [hg]; exact (below_size (by repeat (first | (with_reducible first | exact HB.out | apply below_alloc | apply pw_below_drewN | apply below_drew1 | refine below_set ?_ GE845.out | refine below_set ?_ GE853.out) | exact HB.out))) : w.heap.size ≤ gb858)); have n8_ := Aside0.mk ((by rw [hg]; exact Nat.ne_of_lt (blk_lt (g := gb845) (by (with_reducible repeat (first|apply bN_|apply bD_|apply bA_)); exact BK845.out)) : gb845 ≠ gb858)); have n9_ := Aside0.mk ((by rw [hg]; exact Nat.ne_of_gt (blk_lt (g := gb845) (by (with_reducible repeat (first|apply bN_|apply bD_|apply bA_)); exact BK845.out)) : gb858 ≠ gb845)); have n10_ := Aside0.mk ((by rw [hg]; exact Nat.ne_of_lt (blk_lt (g := gb853) (by (with_reducible repeat (first|apply bN_|apply bD_|apply bA_)); exact BK853.out)) : gb853 ≠ gb858)); have n11_ := Aside0.mk ((by rw [hg]; exact Nat.ne_of_gt (blk_lt (g := gb853) (by (with_reducible repeat (first|apply bN_|apply bD_|apply bA_)); exact BK853.out)) : gb858 ≠ gb853)); clear HO851; clear HO857; clear BK845; clear BK853; clear HB; have HO851 := n0_; have HO857 := n1_; have BK845 := n2_; have BK853 := n3_; have HB := n4_; have BK858 := n5_; have GW858 := n6_; have GE858 := n7_; have NB845_858 := n8_; have NB858_845 := n9_; have NB853_858 := n10_; have NB858_853 := n11_; clear n0_ n1_ n2_ n3_ n4_ n5_ n6_ n7_ n8_ n9_ n10_ n11_; clear hb hbox hg; have hnb116 := NB858_845.out; have hnc116 := NB845_858.out; have hnb117 := NB858_853.out; have hnc117 := NB853_858.out; have hcz118_0 : w115.cell? ⟨gb858, 0, none⟩ = some (.int .i64 0) := (blk_cell BK858.out 0).trans rfl; have hcz118_1 : w115.cell? ⟨gb858, 1, none⟩ = some (.slice none 0 0) := (blk_cell BK858.out 1).trans rfl; have hfz118_0 := blk_frozen BK858.out 0; have hfz118_1 := blk_frozen BK858.out 1; obtain ⟨Ao119, co119, eo119⟩ := Kd.V_slice HO857.out; subst eo119; have hcz120_0 : w115.cell? ⟨gb845, 0, none⟩ = some (.int .i64 a0_0) := (blk_cell BK845.out 0).trans rfl; have hcz120_1 : w115.cell? ⟨gb845, 1, none⟩ = some (.slice A0_1 l0_1.length c0_1) := (blk_cell BK845.out 1).trans rfl; have hfz120_0 := blk_frozen BK845.out 0; have hfz120_1 := blk_frozen BK845.out 1) | ((with_reducible refine gate_callee (f := 31) rfl ?_); refine goesL_ (some 37) rfl rfl Try.func31 (by kernel_rfl) rfl #[.agg #[.int .i64 a0_0, .slice A0_1 l0_1.length c0_1], .string a1] rfl (by (try simp only [List.map_toArray, List.map_cons, List.map_nil]); first | done | rfl | (simp only [List.length_drop, List.length_take]; rfl)) ?_; (with_reducible refine (disk_Read.calls a0_0 _ _ l0_1 a1 t859 t860 _ ?side1 ?side2 A10.out).mono ?_); (case side1 => exact Kd.C_below HR0_1.out (by repeat (first | (with_reducible first | exact HB.out | apply below_alloc | apply pw_below_drewN | apply below_drew1 | refine below_set ?_ GE845.out | refine below_set ?_ GE853.out | refine below_set ?_ GE858.out) | exact HB.out))); (case side2 => exact HC0_1.out); rintro e w121 ⟨rfl, hb⟩; refine ⟨_, rfl, ?_⟩; have n0_ := Aside0.mk (Kd.V_below (by (with_reducible repeat (first|apply vA_|apply vN_|apply vD_)); exact (Kd.V_mono (Kd.V_far (p := ⟨gb858, 1, none⟩) (Kd.V_far (p := ⟨gb858, 0, none⟩) (Kd.V_mono HO851.out (fun k_ hk => (⟨hk, hk.2⟩ : _ ∧ k_ ≠ gb858))) (fun _ hk => hk.2) (.int .i64 t854)) (fun _ hk => hk.2) (.slice Ao119 t855.length co119)) (fun _ h_ => h_.1))) hb); have n1_ := Aside0.mk (Kd.V_below (by (with_reducible repeat (first|apply vA_|apply vN_|apply vD_)); exact (Kd.V_mono (Kd.V_far (p := ⟨gb858, 1, none⟩) (Kd.V_far (p := ⟨gb858, 0, none⟩) (Kd.V_mono HO857.out (fun k_ hk => (⟨hk, hk.2⟩ : _ ∧ k_ ≠ gb858))) (fun _ hk => hk.2) (.int .i64 t854)) (fun _ hk => hk.2) (.slice Ao119 t855.length co119)) (fun _ h_ => h_.1))) hb); have n2_ := Aside0.mk (blk_below (g := gb845) (o := .cells #[.int .i64 a0_0, .slice A0_1 l0_1.length c0_1] 46 (0, 0)) (by (with_reducible repeat (first|apply bN_|apply bD_|apply bA_)); refine blk_far ?_ NB845_858.out _; (with_reducible repeat (first|apply bN_|apply bD_|apply bA_)); refine blk_far ?_ NB845_858.out _; (with_reducible repeat (first|apply bN_|apply bD_|apply bA_)); exact BK845.out) hb); have n3_ := Aside0.mk (blk_below (g := gb853) (o := .cells #[.int .i64 t848, .slice Ao111 t849.length co111] 46 (0, 0)) (by (with_reducible repeat (first|apply bN_|apply bD_|apply bA_)); refine blk_far ?_ NB853_858.out _; (with_reducible repeat (first|apply bN_|apply bD_|apply bA_)); refine blk_far ?_ NB853_858.out _; (with_reducible repeat (first|apply bN_|apply bD_|apply bA_)); exact BK853.out) hb); have n4_ := Aside0.mk (blk_below (g := gb858) (o := .cells #[.int .i64 t854, .slice Ao119 t855.length co119] 46 (0, 0)) (by (with_reducible repeat (first|apply bN_|apply bD_|apply bA_)); refine blk_put (cs := #[.int .i64 t854, .slice none 0 0]) ?_ 1 _ rfl; (with_reducible repeat (first|apply bN_|apply bD_|apply bA_)); refine blk_put (cs := #[.int .i64 0, .slice none 0 0]) ?_ 0 _ rfl; (with_reducible repeat (first|apply bN_|apply bD_|apply bA_)); exact BK858.out) hb); have n5_ := Aside0.mk (below_step (by repeat (first | (with_reducible first | exact HB.out | apply below_alloc | apply pw_below_drewN | apply below_drew1 | refine below_set ?_ GE845.out | refine below_set ?_ GE853.out | refine below_set ?_ GE858.out) | exact HB.out)) hb); clear HO851; clear HO857; clear BK845; clear BK853; clear BK858; clear HB; have HO851 := n0_; have HO857 := n1_; have BK845 := n2_; have BK853 := n3_; have BK858 := n4_; have HB := n5_; clear n0_ n1_ n2_ n3_ n4_ n5_; (try clear hb); (try clear hb2); (try clear hk); (try clear hi); have hcz122_0 : w121.cell? ⟨gb858, 0, none⟩ = some (.int .i64 t854) := (blk_cell BK858.out 0).trans rfl; have hcz122_1 : w121.cell? ⟨gb858, 1, none⟩ = some (.slice Ao119 t855.length co119) := (blk_cell BK858.out 1).trans rfl; have hfz122_0 := blk_frozen BK858.out 0; have hfz122_1 := blk_frozen BK858.out 1) | ((with_reducible refine gate_callee (f := 31) rfl ?_); refine goesL_ (some 43) rfl rfl Try.func31 (by kernel_rfl) rfl #[.agg #[.int .i64 t854, .slice Ao119 t855.length co119], .string a1] rfl (by (try simp only [List.map_toArray, List.map_cons, List.map_nil]); first | done | rfl | (simp only [List.length_drop, List.length_take]; rfl)) ?_; (with_reducible refine (disk_Read.calls t854 _ _ t855 a1 t861 t862 _ ?side1 ?side2 A11.out).mono ?_); (case side1 => repeat (first | exact (Kd.V_reads' HO857.out).2.2 | (with_reducible refine Kd.C_alloc ?_ _) | (with_reducible refine Kd.C_drewN ?_ _) | (with_reducible refine Kd.C_drew ?_))); (case side2 => exact (Kd.V_reads' HO857.out).2.1); rintro e w123 ⟨rfl, hb⟩; refine ⟨_, rfl, ?_⟩; have n0_ := Aside0.mk (Kd.V_below (by (with_reducible repeat (first|apply vA_|apply vN_|apply vD_)); exact HO851.out) hb); have n1_ := Aside0.mk (Kd.V_below (by (with_reducible repeat (first|apply vA_|apply vN_|apply vD_)); exact HO857.out) hb); have n2_ := Aside0.mk (blk_below (g := gb845) (by (with_reducible repeat (first|apply bN_|apply bD_|apply bA_)); exact BK845.out) hb); have n3_ := Aside0.mk (blk_below (g := gb853) (by (with_reducible repeat (first|apply bN_|apply bD_|apply bA_)); exact BK853.out) hb); have n4_ := Aside0.mk (blk_below (g := gb858) (by (with_reducible repeat (first|apply bN_|apply bD_|apply bA_)); exact BK858.out) hb); have n5_ := Aside0.mk (below_step (by repeat (first | (with_reducible first | exact HB.out | apply below_alloc | apply pw_below_drewN | apply below_drew1 | refine below_set ?_ GE845.out | refine below_set ?_ GE853.out | refine below_set ?_ GE858.out) | exact HB.out)) hb); clear HO851; clear HO857; clear BK845; clear BK853; clear BK858; clear HB; have HO851 := n0_; have HO857 := n1_; have BK845 := n2_; have BK853 := n3_; have BK858 := n4_; have HB := n5_; clear n0_ n1_ n2_ n3_ n4_ n5_; (try clear hb); (try clear hb2); (try clear hk); (try clear hi)))
      have n0_ := Aside0.mk (Kd.V_drew HO851.out)
      have n1_ := Aside0.mk (Kd.V_drew HO857.out)
      have n2_ := Aside0.mk (blk_drew BK845.out)
      have n3_ := Aside0.mk (blk_drew BK853.out)
      have n4_ := Aside0.mk (blk_drew BK858.out)
      have n5_ := Aside0.mk (below_drew1 HB.out)
      clear HO851
      clear HO857
      clear BK845
      clear BK853
      clear BK858
      clear HB
      have HO851 := n0_
      have HO857 := n1_
      have BK845 := n2_
      have BK853 := n3_
      have BK858 := n4_
      have HB := n5_
      clear n0_ n1_ n2_ n3_ n4_ n5_
      refine start_ (n := 29) (S := fun w' => True) (ds := []) #[false, false, false, false, false, false, false, false, false, false, false, false, false, false, false, false, false, false, false, false, false, false, false, false, false, false, false, false, false] (by kernel_rfl) rfl rfl trivial (fun hHeld => ?_); refine with_tabW tallysticklaw15_DiskSafe.tab11 tallysticklaw15_DiskSafe.bits11 (fun HT_ HW_ => ?_)
      generalize w123.drew = w124 at HO851 HO857 BK845 BK853 BK858 HB hHeld ⊢
      refine pure_ (i := 0) (N := some 46) (v := ?_) (a' := ?_) #[true, false, false, false, false, false, false, false, false, false, false, false, false, false, false, false, false, false, false, false, false, false, false, false, false, false, false, false, false] rfl rfl (any_of HT_.out (by kernel_rfl)) (fun _ _ _ h => h) (Or.inl ⟨by rfl, ?_⟩) ?_ ?_
      rotate_left
      ·intro w'
       go_simp
       with_reducible rfl
      rotate_left
      ·simp only [Act.put, List.setIfInBounds_toArray, List.set_cons_zero, List.set_cons_succ, i64_w, i32_w]
       rfl
      refine pure_ (i := 1) (N := some 47) (v := ?_) (a' := ?_) #[true, true, false, false, false, false, false, false, false, false, false, false, false, false, false, false, false, false, false, false, false, false, false, false, false, false, false, false, false] rfl rfl (any_of HT_.out (by kernel_rfl)) (fun _ _ _ h => h) (Or.inl ⟨by rfl, ?_⟩) ?_ ?_
      rotate_left
      ·intro w'
       go_simp
       with_reducible rfl
      rotate_left
      ·simp only [Act.put, List.setIfInBounds_toArray, List.set_cons_zero, List.set_cons_succ, i64_w, i32_w]
       rfl
      refine pure_ (i := 2) (N := some 48) (v := ?_) (a' := ?_) #[true, true, true, false, false, false, false, false, false, false, false, false, false, false, false, false, false, false, false, false, false, false, false, false, false, false, false, false, false] rfl rfl (any_of HT_.out (by kernel_rfl)) (fun _ _ _ h => h) (Or.inl ⟨by rfl, ?_⟩) ?_ ?_
      rotate_left
      ·intro w'
       go_simp
       with_reducible rfl
      rotate_left
      ·simp only [Act.put, List.setIfInBounds_toArray, List.set_cons_zero, List.set_cons_succ, i64_w, i32_w]
       rfl
      refine pure_ (i := 3) (N := some 49) (v := ?_) (a' := ?_) #[true, true, true, true, false, false, false, false, false, false, false, false, false, false, false, false, false, false, false, false, false, false, false, false, false, false, false, false, false] rfl rfl (any_of HT_.out (by kernel_rfl)) (fun _ _ _ h => h) (Or.inl ⟨by rfl, ?_⟩) ?_ ?_
      rotate_left
      ·intro w'
       go_simp
       with_reducible rfl
      rotate_left
      ·simp only [Act.put, List.setIfInBounds_toArray, List.set_cons_zero, List.set_cons_succ, i64_w, i32_w]
       rfl
      refine pure_ (i := 4) (N := some 50) (v := ?_) (a' := ?_) #[true, true, true, true, true, false, false, false, false, false, false, false, false, false, false, false, false, false, false, false, false, false, false, false, false, false, false, false, false] rfl rfl (any_of HT_.out (by kernel_rfl)) (fun _ _ _ h => h) (Or.inl ⟨by rfl, ?_⟩) ?_ ?_
      rotate_left
      ·intro w'
       go_simp
       with_reducible rfl
      rotate_left
      ·simp only [Act.put, List.setIfInBounds_toArray, List.set_cons_zero, List.set_cons_succ, i64_w, i32_w]
       rfl
      refine pure_ (i := 5) (N := some 51) (v := ?_) (a' := ?_) #[true, true, true, true, true, true, false, false, false, false, false, false, false, false, false, false, false, false, false, false, false, false, false, false, false, false, false, false, false] rfl rfl (any_of HT_.out (by kernel_rfl)) (fun _ _ _ h => h) (Or.inl ⟨by rfl, ?_⟩) ?_ ?_
      rotate_left
      ·intro w'
       go_simp
       with_reducible rfl
      rotate_left
      ·simp only [Act.put, List.setIfInBounds_toArray, List.set_cons_zero, List.set_cons_succ, i64_w, i32_w]
       rfl
      refine pure_ (i := 6) (N := some 52) (v := ?_) (a' := ?_) #[true, true, true, true, true, true, true, false, false, false, false, false, false, false, false, false, false, false, false, false, false, false, false, false, false, false, false, false, false] rfl rfl (any_of HT_.out (by kernel_rfl)) (fun _ _ _ h => h) (Or.inl ⟨by rfl, ?_⟩) ?_ ?_
      rotate_left
      ·intro w'
       go_simp
       with_reducible rfl
      rotate_left
      ·simp only [Act.put, List.setIfInBounds_toArray, List.set_cons_zero, List.set_cons_succ, i64_w, i32_w]
       rfl
      refine pure_ (i := 7) (N := some 53) (v := ?_) (a' := ?_) #[true, true, true, true, true, true, true, true, false, false, false, false, false, false, false, false, false, false, false, false, false, false, false, false, false, false, false, false, false] rfl rfl (any_of HT_.out (by kernel_rfl)) (fun _ _ _ h => h) (Or.inl ⟨by rfl, ?_⟩) ?_ ?_
      rotate_left
      ·intro w'
       go_simp
       with_reducible rfl
      rotate_left
      ·simp only [Act.put, List.setIfInBounds_toArray, List.set_cons_zero, List.set_cons_succ, i64_w, i32_w]
       rfl
      refine pure_ (i := 8) (N := some 54) (v := ?_) (a' := ?_) #[true, true, true, true, true, true, true, true, true, false, false, false, false, false, false, false, false, false, false, false, false, false, false, false, false, false, false, false, false] rfl rfl (any_of HT_.out (by kernel_rfl)) (fun _ _ _ h => h) (Or.inl ⟨by rfl, ?_⟩) ?_ ?_
      rotate_left
      ·intro w'
       go_simp
       with_reducible rfl
      rotate_left
      ·simp only [Act.put, List.setIfInBounds_toArray, List.set_cons_zero, List.set_cons_succ, i64_w, i32_w]
       rfl
      refine pure_ (i := 9) (N := some 55) (v := ?_) (a' := ?_) #[true, true, true, true, true, true, true, true, true, true, false, false, false, false, false, false, false, false, false, false, false, false, false, false, false, false, false, false, false] rfl rfl (any_of HT_.out (by kernel_rfl)) (fun _ _ _ h => h) (Or.inl ⟨by rfl, ?_⟩) ?_ ?_
      rotate_left
      ·intro w'
       go_simp
       with_reducible rfl
      rotate_left
      ·simp only [Act.put, List.setIfInBounds_toArray, List.set_cons_zero, List.set_cons_succ, i64_w, i32_w]
       rfl
      refine pure_ (i := 10) (N := some 56) (v := undef) (a' := ?_) #[true, true, true, true, true, true, true, true, true, true, true, false, false, false, false, false, false, false, false, false, false, false, false, false, false, false, false, false, false] rfl rfl (any_of HT_.out (by kernel_rfl)) (fun _ _ _ h => h) (Or.inr ⟨by rfl, rfl⟩) ?_ ?_
      rotate_left
      ·simp only [Act.put, List.setIfInBounds_toArray, List.set_cons_zero, List.set_cons_succ, i64_w, i32_w]
       rfl
      refine pure_ (i := 11) (N := some 57) (v := undef) (a' := ?_) #[true, true, true, true, true, true, true, true, true, true, true, true, false, false, false, false, false, false, false, false, false, false, false, false, false, false, false, false, false] rfl rfl (any_of HT_.out (by kernel_rfl)) (fun _ _ _ h => h) (Or.inr ⟨by rfl, rfl⟩) ?_ ?_
      rotate_left
      ·simp only [Act.put, List.setIfInBounds_toArray, List.set_cons_zero, List.set_cons_succ, i64_w, i32_w]
       rfl
      refine pure_ (i := 12) (N := some 58) (v := undef) (a' := ?_) #[true, true, true, true, true, true, true, true, true, true, true, true, true, false, false, false, false, false, false, false, false, false, false, false, false, false, false, false, false] rfl rfl (any_of HT_.out (by kernel_rfl)) (fun _ _ _ h => h) (Or.inr ⟨by rfl, rfl⟩) ?_ ?_
      rotate_left
      ·simp only [Act.put, List.setIfInBounds_toArray, List.set_cons_zero, List.set_cons_succ, i64_w, i32_w]
       rfl
      refine pure_ (i := 13) (N := some 59) (v := ?_) (a' := ?_) #[true, true, true, true, true, true, true, true, true, true, true, true, true, true, false, false, false, false, false, false, false, false, false, false, false, false, false, false, false] rfl rfl (any_of HT_.out (by kernel_rfl)) (fun _ _ _ h => h) (Or.inl ⟨by rfl, ?_⟩) ?_ ?_
      rotate_left
      ·intro w'
       go_simp
       with_reducible rfl
      rotate_left
      ·simp only [Act.put, List.setIfInBounds_toArray, List.set_cons_zero, List.set_cons_succ, i64_w, i32_w]
       rfl
      refine pure_ (i := 14) (N := some 60) (v := ?_) (a' := ?_) #[true, true, true, true, true, true, true, true, true, true, true, true, true, true, true, false, false, false, false, false, false, false, false, false, false, false, false, false, false] rfl rfl (any_of HT_.out (by kernel_rfl)) (fun _ _ _ h => h) (Or.inl ⟨by rfl, ?_⟩) ?_ ?_
      rotate_left
      ·intro w'
       go_simp
       with_reducible rfl
      rotate_left
      ·simp only [Act.put, List.setIfInBounds_toArray, List.set_cons_zero, List.set_cons_succ, i64_w, i32_w]
       rfl
      refine pure_ (i := 15) (N := some 61) (v := undef) (a' := ?_) #[true, true, true, true, true, true, true, true, true, true, true, true, true, true, true, true, false, false, false, false, false, false, false, false, false, false, false, false, false] rfl rfl (any_of HT_.out (by kernel_rfl)) (fun _ _ _ h => h) (Or.inr ⟨by rfl, rfl⟩) ?_ ?_
      rotate_left
      ·simp only [Act.put, List.setIfInBounds_toArray, List.set_cons_zero, List.set_cons_succ, i64_w, i32_w]
       rfl
      refine pure_ (i := 16) (N := some 62) (v := undef) (a' := ?_) #[true, true, true, true, true, true, true, true, true, true, true, true, true, true, true, true, true, false, false, false, false, false, false, false, false, false, false, false, false] rfl rfl (any_of HT_.out (by kernel_rfl)) (fun _ _ _ h => h) (Or.inr ⟨by rfl, rfl⟩) ?_ ?_
      rotate_left
      ·simp only [Act.put, List.setIfInBounds_toArray, List.set_cons_zero, List.set_cons_succ, i64_w, i32_w]
       rfl
      refine pure_ (i := 17) (N := some 63) (v := undef) (a' := ?_) #[true, true, true, true, true, true, true, true, true, true, true, true, true, true, true, true, true, true, false, false, false, false, false, false, false, false, false, false, false] rfl rfl (any_of HT_.out (by kernel_rfl)) (fun _ _ _ h => h) (Or.inr ⟨by rfl, rfl⟩) ?_ ?_
      rotate_left
      ·simp only [Act.put, List.setIfInBounds_toArray, List.set_cons_zero, List.set_cons_succ, i64_w, i32_w]
       rfl
      refine pure_ (i := 18) (N := some 64) (v := undef) (a' := ?_) #[true, true, true, true, true, true, true, true, true, true, true, true, true, true, true, true, true, true, true, false, false, false, false, false, false, false, false, false, false] rfl rfl (any_of HT_.out (by kernel_rfl)) (fun _ _ _ h => h) (Or.inr ⟨by rfl, rfl⟩) ?_ ?_
      rotate_left
      ·simp only [Act.put, List.setIfInBounds_toArray, List.set_cons_zero, List.set_cons_succ, i64_w, i32_w]
       rfl
      refine pure_ (i := 19) (N := some 65) (v := undef) (a' := ?_) #[true, true, true, true, true, true, true, true, true, true, true, true, true, true, true, true, true, true, true, true, false, false, false, false, false, false, false, false, false] rfl rfl (any_of HT_.out (by kernel_rfl)) (fun _ _ _ h => h) (Or.inr ⟨by rfl, rfl⟩) ?_ ?_
      rotate_left
      ·simp only [Act.put, List.setIfInBounds_toArray, List.set_cons_zero, List.set_cons_succ, i64_w, i32_w]
       rfl
      refine pure_ (i := 20) (N := some 66) (v := ?_) (a' := ?_) #[true, true, true, true, true, true, true, true, true, true, true, true, true, true, true, true, true, true, true, true, true, false, false, false, false, false, false, false, false] rfl rfl (any_of HT_.out (by kernel_rfl)) (fun _ _ _ h => h) (Or.inl ⟨by rfl, ?_⟩) ?_ ?_
      rotate_left
      ·intro w'
       go_simp
       with_reducible rfl
      rotate_left
      ·simp only [Act.put, List.setIfInBounds_toArray, List.set_cons_zero, List.set_cons_succ, i64_w, i32_w]
       rfl
      refine pure_ (i := 21) (N := some 67) (v := ?_) (a' := ?_) #[true, true, true, true, true, true, true, true, true, true, true, true, true, true, true, true, true, true, true, true, true, true, false, false, false, false, false, false, false] rfl rfl (any_of HT_.out (by kernel_rfl)) (fun _ _ _ h => h) (Or.inl ⟨by rfl, ?_⟩) ?_ ?_
      rotate_left
      ·intro w'
       go_simp
       with_reducible rfl
      rotate_left
      ·simp only [Act.put, List.setIfInBounds_toArray, List.set_cons_zero, List.set_cons_succ, i64_w, i32_w]
       rfl
      refine pure_ (i := 22) (N := some 68) (v := undef) (a' := ?_) #[true, true, true, true, true, true, true, true, true, true, true, true, true, true, true, true, true, true, true, true, true, true, true, false, false, false, false, false, false] rfl rfl (any_of HT_.out (by kernel_rfl)) (fun _ _ _ h => h) (Or.inr ⟨by rfl, rfl⟩) ?_ ?_
      rotate_left
      ·simp only [Act.put, List.setIfInBounds_toArray, List.set_cons_zero, List.set_cons_succ, i64_w, i32_w]
       rfl
      refine pure_ (i := 23) (N := some 69) (v := undef) (a' := ?_) #[true, true, true, true, true, true, true, true, true, true, true, true, true, true, true, true, true, true, true, true, true, true, true, true, false, false, false, false, false] rfl rfl (any_of HT_.out (by kernel_rfl)) (fun _ _ _ h => h) (Or.inr ⟨by rfl, rfl⟩) ?_ ?_
      rotate_left
      ·simp only [Act.put, List.setIfInBounds_toArray, List.set_cons_zero, List.set_cons_succ, i64_w, i32_w]
       rfl
      refine pure_ (i := 24) (N := some 70) (v := undef) (a' := ?_) #[true, true, true, true, true, true, true, true, true, true, true, true, true, true, true, true, true, true, true, true, true, true, true, true, true, false, false, false, false] rfl rfl (any_of HT_.out (by kernel_rfl)) (fun _ _ _ h => h) (Or.inr ⟨by rfl, rfl⟩) ?_ ?_
      rotate_left
      ·simp only [Act.put, List.setIfInBounds_toArray, List.set_cons_zero, List.set_cons_succ, i64_w, i32_w]
       rfl
      refine pure_ (i := 25) (N := some 71) (v := undef) (a' := ?_) #[true, true, true, true, true, true, true, true, true, true, true, true, true, true, true, true, true, true, true, true, true, true, true, true, true, true, false, false, false] rfl rfl (any_of HT_.out (by kernel_rfl)) (fun _ _ _ h => h) (Or.inr ⟨by rfl, rfl⟩) ?_ ?_
      rotate_left
      ·simp only [Act.put, List.setIfInBounds_toArray, List.set_cons_zero, List.set_cons_succ, i64_w, i32_w]
       rfl
      refine pure_ (i := 26) (N := some 72) (v := undef) (a' := ?_) #[true, true, true, true, true, true, true, true, true, true, true, true, true, true, true, true, true, true, true, true, true, true, true, true, true, true, true, false, false] rfl rfl (any_of HT_.out (by kernel_rfl)) (fun _ _ _ h => h) (Or.inr ⟨by rfl, rfl⟩) ?_ ?_
      rotate_left
      ·simp only [Act.put, List.setIfInBounds_toArray, List.set_cons_zero, List.set_cons_succ, i64_w, i32_w]
       rfl
      refine pure_ (i := 27) (N := some 73) (v := ?_) (a' := ?_) #[true, true, true, true, true, true, true, true, true, true, true, true, true, true, true, true, true, true, true, true, true, true, true, true, true, true, true, true, false] rfl rfl (any_of HT_.out (by kernel_rfl)) (fun _ _ _ h => h) (Or.inl ⟨by rfl, ?_⟩) ?_ ?_
      rotate_left
      ·intro w'
       go_simp
       with_reducible rfl
      rotate_left
      ·simp only [Act.put, List.setIfInBounds_toArray, List.set_cons_zero, List.set_cons_succ, i64_w, i32_w]
       rfl
      refine pure_ (i := 28) (N := some 6) (v := ?_) (a' := ?_) #[true, true, true, true, true, true, true, true, true, true, true, true, true, true, true, true, true, true, true, true, true, true, true, true, true, true, true, true, true] rfl rfl (any_of HT_.out (by kernel_rfl)) (fun _ _ _ h => h) (Or.inl ⟨by rfl, ?_⟩) ?_ ?_
      rotate_left
      ·intro w'
       go_simp
       with_reducible rfl
      rotate_left
      ·simp only [Act.put, List.setIfInBounds_toArray, List.set_cons_zero, List.set_cons_succ, i64_w, i32_w]
       rfl
      refine done_ (done_of HT_.out (by kernel_rfl)) ?_
      try go_wp2
      go_ret
      exact ⟨by first | rfl | (simp [errW_none, errW_some] <;> rfl) | (simp [*, errW_none, errW_some] <;> rfl), by repeat (first | (with_reducible first | exact HB.out | apply below_alloc | apply pw_below_drewN | apply below_drew1 | refine below_set ?_ GE845.out | refine below_set ?_ GE853.out | refine below_set ?_ GE858.out) | exact HB.out)⟩
    ·rw [if_neg c13] at H
     have c13b0 : (t860 == 0) = false := beq_eq_false_iff_ne.mpr c13
     have c13b1 : (t860 != 0) = true := bne_iff_ne.mpr c13
     obtain rfl := Option.some.inj H
     go_enter Try.func11, Try.ntmps11
     try go_wp2_with (first | ((with_reducible refine gate_dst (N := 3) rfl ?_); refine box_event ?hg (N := 3) ?hd (cs := #[.int .i64 a0_0, .slice A0_1 l0_1.length c0_1]) (t := 46) ?hr ?_; (case hd => rfl); (case hg => rfl); (case hr => first | (go_simp; done) | (go_simp; rfl)); intro gb845 hg w125 hbox hb; have n0_ := Aside0.mk (below_step (by repeat (first | (with_reducible first | exact HB.out | apply below_alloc | apply pw_below_drewN | apply below_drew1) | exact HB.out)) hb); have n1_ := Aside0.mk (hbox); have n2_ := Aside0.mk ((by rw [hg]; exact (below_size (by repeat (first | (with_reducible first | exact HB.out | apply below_alloc | apply pw_below_drewN | apply below_drew1) | exact HB.out))) : w.heap.size ≤ gb845)); have n3_ := Aside0.mk ((by rw [hg]; exact (below_size (by repeat (first | (with_reducible first | exact HB.out | apply below_alloc | apply pw_below_drewN | apply below_drew1) | exact HB.out))) : w.heap.size ≤ gb845)); clear HB; have HB := n0_; have BK845 := n1_; have GW845 := n2_; have GE845 := n3_; clear n0_ n1_ n2_ n3_; clear hb hbox hg) | ((with_reducible refine gate_callee (f := 20) rfl ?_); refine goesL_ (some 16) rfl rfl Try.func20 (by kernel_rfl) rfl #[] rfl (by (try simp only [List.map_toArray, List.map_cons, List.map_nil]); first | done | rfl | (simp only [List.length_drop, List.length_take]; rfl)) ?_; (with_reducible refine (tallysticklaw15_shown.calls k  true _ A4.out).mono ?_); rintro e w126 ⟨rfl, hb⟩; refine ⟨_, rfl, ?_⟩; have n0_ := Aside0.mk (blk_below (g := gb845) (by (with_reducible repeat (first|apply bN_|apply bD_|apply bA_)); exact BK845.out) hb); have n1_ := Aside0.mk (below_step (by repeat (first | (with_reducible first | exact HB.out | apply below_alloc | apply pw_below_drewN | apply below_drew1 | refine below_set ?_ GE845.out) | exact HB.out)) hb); clear BK845; clear HB; have BK845 := n0_; have HB := n1_; clear n0_ n1_; (try clear hb); (try clear hb2); (try clear hk); (try clear hi); have hcz127_0 : w126.cell? ⟨gb845, 0, none⟩ = some (.int .i64 a0_0) := (blk_cell BK845.out 0).trans rfl; have hcz127_1 : w126.cell? ⟨gb845, 1, none⟩ = some (.slice A0_1 l0_1.length c0_1) := (blk_cell BK845.out 1).trans rfl; have hfz127_0 := blk_frozen BK845.out 0; have hfz127_1 := blk_frozen BK845.out 1) | ((with_reducible refine gate_callee (f := 21) rfl ?_); refine goesL_ (some 18) rfl rfl Try.func21 (by kernel_rfl) rfl #[.agg #[.int .i64 a0_0, .slice A0_1 l0_1.length c0_1]] rfl (by (try simp only [List.map_toArray, List.map_cons, List.map_nil]); first | done | rfl | (simp only [List.length_drop, List.length_take]; rfl)) ?_; (with_reducible refine (tallystickref15_Right.calls k a0_0 _ _ l0_1 true _ ?side1 ?side2 A5.out).mono ?_); (case side1 => repeat (first | exact (Kd.C_below HR0_1.out HB.out) | (with_reducible refine Kd.C_alloc ?_ _) | (with_reducible refine Kd.C_drewN ?_ _) | (with_reducible refine Kd.C_drew ?_))); (case side2 => exact HC0_1.out); rintro e w128 ⟨rfl, hb⟩; refine ⟨_, rfl, ?_⟩; have n0_ := Aside0.mk (blk_below (g := gb845) (by (with_reducible repeat (first|apply bN_|apply bD_|apply bA_)); exact BK845.out) hb); have n1_ := Aside0.mk (below_step (by repeat (first | (with_reducible first | exact HB.out | apply below_alloc | apply pw_below_drewN | apply below_drew1 | refine below_set ?_ GE845.out) | exact HB.out)) hb); clear BK845; clear HB; have BK845 := n0_; have HB := n1_; clear n0_ n1_; (try clear hb); (try clear hb2); (try clear hk); (try clear hi); have hcz129_0 : w128.cell? ⟨gb845, 0, none⟩ = some (.int .i64 a0_0) := (blk_cell BK845.out 0).trans rfl; have hcz129_1 : w128.cell? ⟨gb845, 1, none⟩ = some (.slice A0_1 l0_1.length c0_1) := (blk_cell BK845.out 1).trans rfl; have hfz129_0 := blk_frozen BK845.out 0; have hfz129_1 := blk_frozen BK845.out 1) | ((with_reducible refine gate_callee (f := 32) rfl ?_); refine goesL_ (some 25) rfl rfl Try.func32 (by kernel_rfl) rfl #[.agg #[.int .i64 a0_0, .slice A0_1 l0_1.length c0_1], .string a1] rfl (by (try simp only [List.map_toArray, List.map_cons, List.map_nil]); first | done | rfl | (simp only [List.length_drop, List.length_take]; rfl)) ?_; (with_reducible refine (disk_Sync.calls a0_0 (fun k_ => k_ < w.heap.size) _ _ l0_1 a1 t848 t849 t852 _ ?side1 A7.out).mono ?_); (case side1 => exact Kd.V_mk HC0_1.out (Kd.F_below (Kd.C_F k55_heap HR0_1.out) (by repeat (first | (with_reducible first | exact HB.out | apply below_alloc | apply pw_below_drewN | apply below_drew1 | refine below_set ?_ GE845.out) | exact HB.out)))); rintro e w130 ⟨v850, rfl, ho0, hb⟩; refine ⟨_, rfl, ?_⟩; have n0_ := Aside0.mk (Kd.V_lower (Kd.V_mono (ok' := fun k_ => k_ ≠ gb845) ho0 (fun k_ hk_ => Or.elim hk_ (fun hs_ => fun e_ => Nat.not_le.2 hs_ (by rw [e_]; exact GW845.out)) (fun hn_ => (Kd.freshB (g := gb845) (by (with_reducible repeat (first|apply bN_|apply bD_|apply bA_)); exact BK845.out) k_ hn_)))) (below_size (by repeat (first | (with_reducible first | exact HB.out | apply below_alloc | apply pw_below_drewN | apply below_drew1 | refine below_set ?_ GE845.out) | exact HB.out)))); have n1_ := Aside0.mk (blk_below (g := gb845) (by (with_reducible repeat (first|apply bN_|apply bD_|apply bA_)); exact BK845.out) hb); have n2_ := Aside0.mk (below_step (by repeat (first | (with_reducible first | exact HB.out | apply below_alloc | apply pw_below_drewN | apply below_drew1 | refine below_set ?_ GE845.out) | exact HB.out)) hb); clear BK845; clear HB; have HO851 := n0_; have BK845 := n1_; have HB := n2_; clear n0_ n1_ n2_; (try clear hb); (try clear hb2); (try clear hk); (try clear hi); (try clear ho0)) | ((with_reducible refine gate_dst (N := 9) rfl ?_); refine box_event ?hg (N := 9) ?hd (cs := #[.int .i64 0, .slice none 0 0]) (t := 46) ?hr ?_; (case hd => rfl); (case hg => rfl); (case hr => first | (go_simp; done) | (go_simp; rfl)); intro gb853 hg w131 hbox hb; have n0_ := Aside0.mk (Kd.V_below (Kd.V_elderB (by (with_reducible repeat (first|apply vA_|apply vN_|apply vD_)); exact HO851.out) gb853 (Nat.le_of_eq hg.symm)) hb); have n1_ := Aside0.mk (blk_below (g := gb845) (by (with_reducible repeat (first|apply bN_|apply bD_|apply bA_)); exact BK845.out) hb); have n2_ := Aside0.mk (below_step (by repeat (first | (with_reducible first | exact HB.out | apply below_alloc | apply pw_below_drewN | apply below_drew1 | refine below_set ?_ GE845.out) | exact HB.out)) hb); have n3_ := Aside0.mk (hbox); have n4_ := Aside0.mk ((by rw [hg]; exact (below_size (by repeat (first | (with_reducible first | exact HB.out | apply below_alloc | apply pw_below_drewN | apply below_drew1 | refine below_set ?_ GE845.out) | exact HB.out))) : w.heap.size ≤ gb853)); have n5_ := Aside0.mk ((by rw [hg]; exact (below_size (by repeat (first | (with_reducible first | exact HB.out | apply below_alloc | apply pw_below_drewN | apply below_drew1 | refine below_set ?_ GE845.out) | exact HB.out))) : w.heap.size ≤ gb853)); have n6_ := Aside0.mk ((by rw [hg]; exact Nat.ne_of_lt (blk_lt (g := gb845) (by (with_reducible repeat (first|apply bN_|apply bD_|apply bA_)); exact BK845.out)) : gb845 ≠ gb853)); have n7_ := Aside0.mk ((by rw [hg]; exact Nat.ne_of_gt (blk_lt (g := gb845) (by (with_reducible repeat (first|apply bN_|apply bD_|apply bA_)); exact BK845.out)) : gb853 ≠ gb845)); clear HO851; clear BK845; clear HB; have HO851 := n0_; have BK845 := n1_; have HB := n2_; have BK853 := n3_; have GW853 := n4_; have GE853 := n5_; have NB845_853 := n6_; have NB853_845 := n7_; clear n0_ n1_ n2_ n3_ n4_ n5_ n6_ n7_; clear hb hbox hg; have hnb132 := NB853_845.out; have hnc132 := NB845_853.out; have hcz133_0 : w131.cell? ⟨gb853, 0, none⟩ = some (.int .i64 0) := (blk_cell BK853.out 0).trans rfl; have hcz133_1 : w131.cell? ⟨gb853, 1, none⟩ = some (.slice none 0 0) := (blk_cell BK853.out 1).trans rfl; have hfz133_0 := blk_frozen BK853.out 0; have hfz133_1 := blk_frozen BK853.out 1; obtain ⟨Ao134, co134, eo134⟩ := Kd.V_slice HO851.out; subst eo134) | ((with_reducible refine gate_store (t := 46) (p := 9) rfl ?_); refine store_event (t := 46) (p := 9) (v := ?vo_w135) (w1 := ((w131.setCell ⟨gb853, 0, none⟩ (.int .i64 t848)).setCell ⟨gb853, 1, none⟩ (.slice Ao134 t849.length co134))) ?hg ?ho ?hn ?hr ?_; (case ho => rfl); (case hg => rfl); (case hn => rfl); (case hr => first | (go_simp; done) | (go_simp; rfl)); intro w135 hw; have n0_ : Aside0 (Kd.V k55 55 w135 w.heap.size (fun k_ => k_ ≠ gb845 ∧ k_ ≠ gb853) (.slice Ao134 t849.length co134) t849) := ⟨(by rw [hw]; exact (by (with_reducible repeat (first|apply vA_|apply vN_|apply vD_)); exact Kd.V_mono (Kd.V_far (p := ⟨gb853, 1, none⟩) (Kd.V_far (p := ⟨gb853, 0, none⟩) (Kd.V_mono HO851.out (fun k_ hk => (⟨hk, hk.2⟩ : _ ∧ k_ ≠ gb853))) (fun _ hk => hk.2) (.int .i64 t848)) (fun _ hk => hk.2) (.slice Ao134 t849.length co134)) (fun _ hk => ⟨hk.1.1, hk.1.2⟩)))⟩; have n1_ : Aside0 (w135.heap[gb845]? = some (.cells #[.int .i64 a0_0, .slice A0_1 l0_1.length c0_1] 46 (0, 0))) := ⟨(by rw [hw]; exact (by (with_reducible repeat (first|apply bN_|apply bD_|apply bA_)); refine blk_far ?_ NB845_853.out _; (with_reducible repeat (first|apply bN_|apply bD_|apply bA_)); refine blk_far ?_ NB845_853.out _; (with_reducible repeat (first|apply bN_|apply bD_|apply bA_)); exact BK845.out))⟩; have n2_ : Aside0 (w135.heap[gb853]? = some (.cells #[.int .i64 t848, .slice Ao134 t849.length co134] 46 (0, 0))) := ⟨(by rw [hw]; exact (by (with_reducible repeat (first|apply bN_|apply bD_|apply bA_)); refine blk_put (cs := #[.int .i64 t848, .slice none 0 0]) ?_ 1 _ rfl; (with_reducible repeat (first|apply bN_|apply bD_|apply bA_)); refine blk_put (cs := #[.int .i64 0, .slice none 0 0]) ?_ 0 _ rfl; (with_reducible repeat (first|apply bN_|apply bD_|apply bA_)); exact BK853.out))⟩; have n3_ : Aside0 (Below w.heap.size w w135) := ⟨(by rw [hw]; exact (by repeat (first | (with_reducible first | exact HB.out | apply below_alloc | apply pw_below_drewN | apply below_drew1 | refine below_set ?_ GE845.out | refine below_set ?_ GE853.out) | exact HB.out)))⟩; clear hw; clear HO851; clear BK845; clear BK853; clear HB; have HO851 := n0_; have BK845 := n1_; have BK853 := n2_; have HB := n3_; clear n0_ n1_ n2_ n3_; have hcz136_0 : w135.cell? ⟨gb853, 0, none⟩ = some (.int .i64 t848) := (blk_cell BK853.out 0).trans rfl; have hcz136_1 : w135.cell? ⟨gb853, 1, none⟩ = some (.slice Ao134 t849.length co134) := (blk_cell BK853.out 1).trans rfl; have hfz136_0 := blk_frozen BK853.out 0; have hfz136_1 := blk_frozen BK853.out 1) | ((with_reducible refine gate_callee (f := 24) rfl ?_); refine goesL_ (some 33) rfl rfl Try.func24 (by kernel_rfl) rfl #[.agg #[.int .i64 t848, .slice Ao134 t849.length co134], .slice A2 l2.length c2] rfl (by (try simp only [List.map_toArray, List.map_cons, List.map_nil]); first | done | rfl | (simp only [List.length_drop, List.length_take]; rfl)) ?_; (with_reducible refine (disk_Crash.calls t848 (fun k_ => (k_ ≠ gb845 ∧ k_ ≠ gb853)) _ _ t849 (fun k_ => k_ < w.heap.size) _ _ l2 t854 t855 _ ?side1 ?side2 A9.out).mono ?_); (case side1 => exact HO851.out); (case side2 => exact Kd.V_mk HC2.out (Kd.F_below (Kd.C_F (Kd.heap_int .u64) HR2.out) (by repeat (first | (with_reducible first | exact HB.out | apply below_alloc | apply pw_below_drewN | apply below_drew1 | refine below_set ?_ GE845.out | refine below_set ?_ GE853.out) | exact HB.out)))); rintro e w137 ⟨v856, rfl, ho0, hb⟩; refine ⟨_, rfl, ?_⟩; have n0_ := Aside0.mk (Kd.V_below (by (with_reducible repeat (first|apply vA_|apply vN_|apply vD_)); exact HO851.out) hb); have n1_ := Aside0.mk (Kd.V_lower (Kd.V_mono (ok' := fun k_ => k_ ≠ gb845 ∧ k_ ≠ gb853) ho0 (fun k_ hk_ => ⟨Or.elim hk_ (fun hs_ => Or.elim hs_ (fun hs_ => hs_.1) (fun hs_ => fun e_ => Nat.not_le.2 hs_ (by rw [e_]; exact GW845.out))) (fun hn_ => (Kd.freshB (g := gb845) (by (with_reducible repeat (first|apply bN_|apply bD_|apply bA_)); exact BK845.out) k_ hn_)), Or.elim hk_ (fun hs_ => Or.elim hs_ (fun hs_ => hs_.2) (fun hs_ => fun e_ => Nat.not_le.2 hs_ (by rw [e_]; exact GW853.out))) (fun hn_ => (Kd.freshB (g := gb853) (by (with_reducible repeat (first|apply bN_|apply bD_|apply bA_)); exact BK853.out) k_ hn_))⟩)) (below_size (by repeat (first | (with_reducible first | exact HB.out | apply below_alloc | apply pw_below_drewN | apply below_drew1 | refine below_set ?_ GE845.out | refine below_set ?_ GE853.out) | exact HB.out)))); have n2_ := Aside0.mk (blk_below (g := gb845) (by (with_reducible repeat (first|apply bN_|apply bD_|apply bA_)); exact BK845.out) hb); have n3_ := Aside0.mk (blk_below (g := gb853) (by (with_reducible repeat (first|apply bN_|apply bD_|apply bA_)); exact BK853.out) hb); have n4_ := Aside0.mk (below_step (by repeat (first | (with_reducible first | exact HB.out | apply below_alloc | apply pw_below_drewN | apply below_drew1 | refine below_set ?_ GE845.out | refine below_set ?_ GE853.out) | exact HB.out)) hb); clear HO851; clear BK845; clear BK853; clear HB; have HO851 := n0_; have HO857 := n1_; have BK845 := n2_; have BK853 := n3_; have HB := n4_; clear n0_ n1_ n2_ n3_ n4_; (try clear hb); (try clear hb2); (try clear hk); (try clear hi); (try clear ho0)) | ((with_reducible refine gate_dst (N := 11) rfl ?_); refine box_event ?hg (N := 11) ?hd (cs := #[.int .i64 0, .slice none 0 0]) (t := 46) ?hr ?_; (case hd => rfl); (case hg => rfl); (case hr => first | (go_simp; done) | (go_simp; rfl)); intro gb858 hg w138 hbox hb; have n0_ := Aside0.mk (Kd.V_below (Kd.V_elderB (by (with_reducible repeat (first|apply vA_|apply vN_|apply vD_)); exact HO851.out) gb858 (Nat.le_of_eq hg.symm)) hb); have n1_ := Aside0.mk (Kd.V_below (Kd.V_elderB (by (with_reducible repeat (first|apply vA_|apply vN_|apply vD_)); exact HO857.out) gb858 (Nat.le_of_eq hg.symm)) hb); have n2_ := Aside0.mk (blk_below (g := gb845) (by (with_reducible repeat (first|apply bN_|apply bD_|apply bA_)); exact BK845.out) hb); have n3_ := Aside0.mk (blk_below (g := gb853) (by (with_reducible repeat (first|apply bN_|apply bD_|apply bA_)); exact BK853.out) hb); have n4_ := Aside0.mk (below_step (by repeat (first | (with_reducible first | exact HB.out | apply below_alloc | apply pw_below_drewN | apply below_drew1 | refine below_set ?_ GE845.out | refine below_set ?_ GE853.out) | exact HB.out)) hb); have n5_ := Aside0.mk (hbox); have n6_ := Aside0.mk ((by rw [hg]; exact (below_size (by repeat (first | (with_reducible first | exact HB.out | apply below_alloc | apply pw_below_drewN | apply below_drew1 | refine below_set ?_ GE845.out | refine below_set ?_ GE853.out) | exact HB.out))) : w.heap.size ≤ gb858)); have n7_ := Aside0.mk ((by rw [hg]; exact (below_size (by repeat (first | (with_reducible first | exact HB.out | apply below_alloc | apply pw_below_drewN | apply below_drew1 | refine below_set ?_ GE845.out | refine below_set ?_ GE853.out) | exact HB.out))) : w.heap.size ≤ gb858)); have n8_ := Aside0.mk ((by rw [hg]; exact Nat.ne_of_lt (blk_lt (g := gb845) (by (with_reducible repeat (first|apply bN_|apply bD_|apply bA_)); exact BK845.out)) : gb845 ≠ gb858)); have n9_ := Aside0.mk ((by rw [hg]; exact Nat.ne_of_gt (blk_lt (g := gb845) (by (with_reducible repeat (first|apply bN_|apply bD_|apply bA_)); exact BK845.out)) : gb858 ≠ gb845)); have n10_ := Aside0.mk ((by rw [hg]; exact Nat.ne_of_lt (blk_lt (g := gb853) (by (with_reducible repeat (first|apply bN_|apply bD_|apply bA_)); exact BK853.out)) : gb853 ≠ gb858)); have n11_ := Aside0.mk ((by rw [hg]; exact Nat.ne_of_gt (blk_lt (g := gb853) (by (with_reducible repeat (first|apply bN_|apply bD_|apply bA_)); exact BK853.out)) : gb858 ≠ gb853)); clear HO851; clear HO857; clear BK845; clear BK853; clear HB; have HO851 := n0_; have HO857 := n1_; have BK845 := n2_; have BK853 := n3_; have HB := n4_; have BK858 := n5_; have GW858 := n6_; have GE858 := n7_; have NB845_858 := n8_; have NB858_845 := n9_; have NB853_858 := n10_; have NB858_853 := n11_; clear n0_ n1_ n2_ n3_ n4_ n5_ n6_ n7_ n8_ n9_ n10_ n11_; clear hb hbox hg; have hnb139 := NB858_845.out; have hnc139 := NB845_858.out; have hnb140 := NB858_853.out; have hnc140 := NB853_858.out; have hcz141_0 : w138.cell? ⟨gb858, 0, none⟩ = some (.int .i64 0) := (blk_cell BK858.out 0).trans rfl; have hcz141_1 : w138.cell? ⟨gb858, 1, none⟩ = some (.slice none 0 0) := (blk_cell BK858.out 1).trans rfl; have hfz141_0 := blk_frozen BK858.out 0; have hfz141_1 := blk_frozen BK858.out 1; obtain ⟨Ao142, co142, eo142⟩ := Kd.V_slice HO857.out; subst eo142; have hcz143_0 : w138.cell? ⟨gb845, 0, none⟩ = some (.int .i64 a0_0) := (blk_cell BK845.out 0).trans rfl; have hcz143_1 : w138.cell? ⟨gb845, 1, none⟩ = some (.slice A0_1 l0_1.length c0_1) := (blk_cell BK845.out 1).trans rfl; have hfz143_0 := blk_frozen BK845.out 0; have hfz143_1 := blk_frozen BK845.out 1) | ((with_reducible refine gate_callee (f := 31) rfl ?_); refine goesL_ (some 37) rfl rfl Try.func31 (by kernel_rfl) rfl #[.agg #[.int .i64 a0_0, .slice A0_1 l0_1.length c0_1], .string a1] rfl (by (try simp only [List.map_toArray, List.map_cons, List.map_nil]); first | done | rfl | (simp only [List.length_drop, List.length_take]; rfl)) ?_; (with_reducible refine (disk_Read.calls a0_0 _ _ l0_1 a1 t859 t860 _ ?side1 ?side2 A10.out).mono ?_); (case side1 => exact Kd.C_below HR0_1.out (by repeat (first | (with_reducible first | exact HB.out | apply below_alloc | apply pw_below_drewN | apply below_drew1 | refine below_set ?_ GE845.out | refine below_set ?_ GE853.out | refine below_set ?_ GE858.out) | exact HB.out))); (case side2 => exact HC0_1.out); rintro e w144 ⟨rfl, hb⟩; refine ⟨_, rfl, ?_⟩; have n0_ := Aside0.mk (Kd.V_below (by (with_reducible repeat (first|apply vA_|apply vN_|apply vD_)); exact (Kd.V_mono (Kd.V_far (p := ⟨gb858, 1, none⟩) (Kd.V_far (p := ⟨gb858, 0, none⟩) (Kd.V_mono HO851.out (fun k_ hk => (⟨hk, hk.2⟩ : _ ∧ k_ ≠ gb858))) (fun _ hk => hk.2) (.int .i64 t854)) (fun _ hk => hk.2) (.slice Ao142 t855.length co142)) (fun _ h_ => h_.1))) hb); have n1_ := Aside0.mk (Kd.V_below (by (with_reducible repeat (first|apply vA_|apply vN_|apply vD_)); exact (Kd.V_mono (Kd.V_far (p := ⟨gb858, 1, none⟩) (Kd.V_far (p := ⟨gb858, 0, none⟩) (Kd.V_mono HO857.out (fun k_ hk => (⟨hk, hk.2⟩ : _ ∧ k_ ≠ gb858))) (fun _ hk => hk.2) (.int .i64 t854)) (fun _ hk => hk.2) (.slice Ao142 t855.length co142)) (fun _ h_ => h_.1))) hb); have n2_ := Aside0.mk (blk_below (g := gb845) (o := .cells #[.int .i64 a0_0, .slice A0_1 l0_1.length c0_1] 46 (0, 0)) (by (with_reducible repeat (first|apply bN_|apply bD_|apply bA_)); refine blk_far ?_ NB845_858.out _; (with_reducible repeat (first|apply bN_|apply bD_|apply bA_)); refine blk_far ?_ NB845_858.out _; (with_reducible repeat (first|apply bN_|apply bD_|apply bA_)); exact BK845.out) hb); have n3_ := Aside0.mk (blk_below (g := gb853) (o := .cells #[.int .i64 t848, .slice Ao134 t849.length co134] 46 (0, 0)) (by (with_reducible repeat (first|apply bN_|apply bD_|apply bA_)); refine blk_far ?_ NB853_858.out _; (with_reducible repeat (first|apply bN_|apply bD_|apply bA_)); refine blk_far ?_ NB853_858.out _; (with_reducible repeat (first|apply bN_|apply bD_|apply bA_)); exact BK853.out) hb); have n4_ := Aside0.mk (blk_below (g := gb858) (o := .cells #[.int .i64 t854, .slice Ao142 t855.length co142] 46 (0, 0)) (by (with_reducible repeat (first|apply bN_|apply bD_|apply bA_)); refine blk_put (cs := #[.int .i64 t854, .slice none 0 0]) ?_ 1 _ rfl; (with_reducible repeat (first|apply bN_|apply bD_|apply bA_)); refine blk_put (cs := #[.int .i64 0, .slice none 0 0]) ?_ 0 _ rfl; (with_reducible repeat (first|apply bN_|apply bD_|apply bA_)); exact BK858.out) hb); have n5_ := Aside0.mk (below_step (by repeat (first | (with_reducible first | exact HB.out | apply below_alloc | apply pw_below_drewN | apply below_drew1 | refine below_set ?_ GE845.out | refine below_set ?_ GE853.out | refine below_set ?_ GE858.out) | exact HB.out)) hb); clear HO851; clear HO857; clear BK845; clear BK853; clear BK858; clear HB; have HO851 := n0_; have HO857 := n1_; have BK845 := n2_; have BK853 := n3_; have BK858 := n4_; have HB := n5_; clear n0_ n1_ n2_ n3_ n4_ n5_; (try clear hb); (try clear hb2); (try clear hk); (try clear hi); have hcz145_0 : w144.cell? ⟨gb858, 0, none⟩ = some (.int .i64 t854) := (blk_cell BK858.out 0).trans rfl; have hcz145_1 : w144.cell? ⟨gb858, 1, none⟩ = some (.slice Ao142 t855.length co142) := (blk_cell BK858.out 1).trans rfl; have hfz145_0 := blk_frozen BK858.out 0; have hfz145_1 := blk_frozen BK858.out 1) | ((with_reducible refine gate_callee (f := 31) rfl ?_); refine goesL_ (some 43) rfl rfl Try.func31 (by kernel_rfl) rfl #[.agg #[.int .i64 t854, .slice Ao142 t855.length co142], .string a1] rfl (by (try simp only [List.map_toArray, List.map_cons, List.map_nil]); first | done | rfl | (simp only [List.length_drop, List.length_take]; rfl)) ?_; (with_reducible refine (disk_Read.calls t854 _ _ t855 a1 t861 t862 _ ?side1 ?side2 A11.out).mono ?_); (case side1 => repeat (first | exact (Kd.V_reads' HO857.out).2.2 | (with_reducible refine Kd.C_alloc ?_ _) | (with_reducible refine Kd.C_drewN ?_ _) | (with_reducible refine Kd.C_drew ?_))); (case side2 => exact (Kd.V_reads' HO857.out).2.1); rintro e w146 ⟨rfl, hb⟩; refine ⟨_, rfl, ?_⟩; have n0_ := Aside0.mk (Kd.V_below (by (with_reducible repeat (first|apply vA_|apply vN_|apply vD_)); exact HO851.out) hb); have n1_ := Aside0.mk (Kd.V_below (by (with_reducible repeat (first|apply vA_|apply vN_|apply vD_)); exact HO857.out) hb); have n2_ := Aside0.mk (blk_below (g := gb845) (by (with_reducible repeat (first|apply bN_|apply bD_|apply bA_)); exact BK845.out) hb); have n3_ := Aside0.mk (blk_below (g := gb853) (by (with_reducible repeat (first|apply bN_|apply bD_|apply bA_)); exact BK853.out) hb); have n4_ := Aside0.mk (blk_below (g := gb858) (by (with_reducible repeat (first|apply bN_|apply bD_|apply bA_)); exact BK858.out) hb); have n5_ := Aside0.mk (below_step (by repeat (first | (with_reducible first | exact HB.out | apply below_alloc | apply pw_below_drewN | apply below_drew1 | refine below_set ?_ GE845.out | refine below_set ?_ GE853.out | refine below_set ?_ GE858.out) | exact HB.out)) hb); clear HO851; clear HO857; clear BK845; clear BK853; clear BK858; clear HB; have HO851 := n0_; have HO857 := n1_; have BK845 := n2_; have BK853 := n3_; have BK858 := n4_; have HB := n5_; clear n0_ n1_ n2_ n3_ n4_ n5_; (try clear hb); (try clear hb2); (try clear hk); (try clear hi)))
     have n0_ := Aside0.mk (Kd.V_drew HO851.out)
     have n1_ := Aside0.mk (Kd.V_drew HO857.out)
     have n2_ := Aside0.mk (blk_drew BK845.out)
     have n3_ := Aside0.mk (blk_drew BK853.out)
     have n4_ := Aside0.mk (blk_drew BK858.out)
     have n5_ := Aside0.mk (below_drew1 HB.out)
     clear HO851
     clear HO857
     clear BK845
     clear BK853
     clear BK858
     clear HB
     have HO851 := n0_
     have HO857 := n1_
     have BK845 := n2_
     have BK853 := n3_
     have BK858 := n4_
     have HB := n5_
     clear n0_ n1_ n2_ n3_ n4_ n5_
     refine start_ (n := 29) (S := fun w' => True) (ds := []) #[false, false, false, false, false, false, false, false, false, false, false, false, false, false, false, false, false, false, false, false, false, false, false, false, false, false, false, false, false] (by kernel_rfl) rfl rfl trivial (fun hHeld => ?_); refine with_tabW tallysticklaw15_DiskSafe.tab11 tallysticklaw15_DiskSafe.bits11 (fun HT_ HW_ => ?_)
     generalize w146.drew = w147 at HO851 HO857 BK845 BK853 BK858 HB hHeld ⊢
     refine pure_ (i := 0) (N := some 46) (v := ?_) (a' := ?_) #[true, false, false, false, false, false, false, false, false, false, false, false, false, false, false, false, false, false, false, false, false, false, false, false, false, false, false, false, false] rfl rfl (any_of HT_.out (by kernel_rfl)) (fun _ _ _ h => h) (Or.inl ⟨by rfl, ?_⟩) ?_ ?_
     rotate_left
     ·intro w'
      go_simp
      with_reducible rfl
     rotate_left
     ·simp only [Act.put, List.setIfInBounds_toArray, List.set_cons_zero, List.set_cons_succ, i64_w, i32_w]
      rfl
     refine pure_ (i := 1) (N := some 47) (v := ?_) (a' := ?_) #[true, true, false, false, false, false, false, false, false, false, false, false, false, false, false, false, false, false, false, false, false, false, false, false, false, false, false, false, false] rfl rfl (any_of HT_.out (by kernel_rfl)) (fun _ _ _ h => h) (Or.inl ⟨by rfl, ?_⟩) ?_ ?_
     rotate_left
     ·intro w'
      go_simp
      with_reducible rfl
     rotate_left
     ·simp only [Act.put, List.setIfInBounds_toArray, List.set_cons_zero, List.set_cons_succ, i64_w, i32_w]
      rfl
     refine pure_ (i := 2) (N := some 48) (v := ?_) (a' := ?_) #[true, true, true, false, false, false, false, false, false, false, false, false, false, false, false, false, false, false, false, false, false, false, false, false, false, false, false, false, false] rfl rfl (any_of HT_.out (by kernel_rfl)) (fun _ _ _ h => h) (Or.inl ⟨by rfl, ?_⟩) ?_ ?_
     rotate_left
     ·intro w'
      go_simp
      with_reducible rfl
     rotate_left
     ·simp only [Act.put, List.setIfInBounds_toArray, List.set_cons_zero, List.set_cons_succ, i64_w, i32_w]
      rfl
     refine pure_ (i := 3) (N := some 49) (v := ?_) (a' := ?_) #[true, true, true, true, false, false, false, false, false, false, false, false, false, false, false, false, false, false, false, false, false, false, false, false, false, false, false, false, false] rfl rfl (any_of HT_.out (by kernel_rfl)) (fun _ _ _ h => h) (Or.inl ⟨by rfl, ?_⟩) ?_ ?_
     rotate_left
     ·intro w'
      go_simp
      with_reducible rfl
     rotate_left
     ·simp only [Act.put, List.setIfInBounds_toArray, List.set_cons_zero, List.set_cons_succ, i64_w, i32_w]
      rfl
     refine pure_ (i := 4) (N := some 50) (v := ?_) (a' := ?_) #[true, true, true, true, true, false, false, false, false, false, false, false, false, false, false, false, false, false, false, false, false, false, false, false, false, false, false, false, false] rfl rfl (any_of HT_.out (by kernel_rfl)) (fun _ _ _ h => h) (Or.inl ⟨by rfl, ?_⟩) ?_ ?_
     rotate_left
     ·intro w'
      go_simp
      with_reducible rfl
     rotate_left
     ·simp only [Act.put, List.setIfInBounds_toArray, List.set_cons_zero, List.set_cons_succ, i64_w, i32_w]
      rfl
     refine pure_ (i := 5) (N := some 51) (v := ?_) (a' := ?_) #[true, true, true, true, true, true, false, false, false, false, false, false, false, false, false, false, false, false, false, false, false, false, false, false, false, false, false, false, false] rfl rfl (any_of HT_.out (by kernel_rfl)) (fun _ _ _ h => h) (Or.inl ⟨by rfl, ?_⟩) ?_ ?_
     rotate_left
     ·intro w'
      go_simp
      with_reducible rfl
     rotate_left
     ·simp only [Act.put, List.setIfInBounds_toArray, List.set_cons_zero, List.set_cons_succ, i64_w, i32_w]
      rfl
     refine pure_ (i := 6) (N := some 52) (v := undef) (a' := ?_) #[true, true, true, true, true, true, true, false, false, false, false, false, false, false, false, false, false, false, false, false, false, false, false, false, false, false, false, false, false] rfl rfl (any_of HT_.out (by kernel_rfl)) (fun _ _ _ h => h) (Or.inr ⟨by rfl, rfl⟩) ?_ ?_
     rotate_left
     ·simp only [Act.put, List.setIfInBounds_toArray, List.set_cons_zero, List.set_cons_succ, i64_w, i32_w]
      rfl
     refine pure_ (i := 7) (N := some 53) (v := undef) (a' := ?_) #[true, true, true, true, true, true, true, true, false, false, false, false, false, false, false, false, false, false, false, false, false, false, false, false, false, false, false, false, false] rfl rfl (any_of HT_.out (by kernel_rfl)) (fun _ _ _ h => h) (Or.inr ⟨by rfl, rfl⟩) ?_ ?_
     rotate_left
     ·simp only [Act.put, List.setIfInBounds_toArray, List.set_cons_zero, List.set_cons_succ, i64_w, i32_w]
      rfl
     refine pure_ (i := 8) (N := some 54) (v := ?_) (a' := ?_) #[true, true, true, true, true, true, true, true, true, false, false, false, false, false, false, false, false, false, false, false, false, false, false, false, false, false, false, false, false] rfl rfl (any_of HT_.out (by kernel_rfl)) (fun _ _ _ h => h) (Or.inl ⟨by rfl, ?_⟩) ?_ ?_
     rotate_left
     ·intro w'
      go_simp
      with_reducible rfl
     rotate_left
     ·simp only [Act.put, List.setIfInBounds_toArray, List.set_cons_zero, List.set_cons_succ, i64_w, i32_w]
      rfl
     refine pure_ (i := 9) (N := some 55) (v := ?_) (a' := ?_) #[true, true, true, true, true, true, true, true, true, true, false, false, false, false, false, false, false, false, false, false, false, false, false, false, false, false, false, false, false] rfl rfl (any_of HT_.out (by kernel_rfl)) (fun _ _ _ h => h) (Or.inl ⟨by rfl, ?_⟩) ?_ ?_
     rotate_left
     ·intro w'
      go_simp
      with_reducible rfl
     rotate_left
     ·simp only [Act.put, List.setIfInBounds_toArray, List.set_cons_zero, List.set_cons_succ, i64_w, i32_w]
      rfl
     refine pure_ (i := 10) (N := some 56) (v := undef) (a' := ?_) #[true, true, true, true, true, true, true, true, true, true, true, false, false, false, false, false, false, false, false, false, false, false, false, false, false, false, false, false, false] rfl rfl (any_of HT_.out (by kernel_rfl)) (fun _ _ _ h => h) (Or.inr ⟨by rfl, rfl⟩) ?_ ?_
     rotate_left
     ·simp only [Act.put, List.setIfInBounds_toArray, List.set_cons_zero, List.set_cons_succ, i64_w, i32_w]
      rfl
     refine pure_ (i := 11) (N := some 57) (v := undef) (a' := ?_) #[true, true, true, true, true, true, true, true, true, true, true, true, false, false, false, false, false, false, false, false, false, false, false, false, false, false, false, false, false] rfl rfl (any_of HT_.out (by kernel_rfl)) (fun _ _ _ h => h) (Or.inr ⟨by rfl, rfl⟩) ?_ ?_
     rotate_left
     ·simp only [Act.put, List.setIfInBounds_toArray, List.set_cons_zero, List.set_cons_succ, i64_w, i32_w]
      rfl
     refine pure_ (i := 12) (N := some 58) (v := undef) (a' := ?_) #[true, true, true, true, true, true, true, true, true, true, true, true, true, false, false, false, false, false, false, false, false, false, false, false, false, false, false, false, false] rfl rfl (any_of HT_.out (by kernel_rfl)) (fun _ _ _ h => h) (Or.inr ⟨by rfl, rfl⟩) ?_ ?_
     rotate_left
     ·simp only [Act.put, List.setIfInBounds_toArray, List.set_cons_zero, List.set_cons_succ, i64_w, i32_w]
      rfl
     refine pure_ (i := 13) (N := some 59) (v := ?_) (a' := ?_) #[true, true, true, true, true, true, true, true, true, true, true, true, true, true, false, false, false, false, false, false, false, false, false, false, false, false, false, false, false] rfl rfl (any_of HT_.out (by kernel_rfl)) (fun _ _ _ h => h) (Or.inl ⟨by rfl, ?_⟩) ?_ ?_
     rotate_left
     ·intro w'
      go_simp
      with_reducible rfl
     rotate_left
     ·simp only [Act.put, List.setIfInBounds_toArray, List.set_cons_zero, List.set_cons_succ, i64_w, i32_w]
      rfl
     refine pure_ (i := 14) (N := some 60) (v := ?_) (a' := ?_) #[true, true, true, true, true, true, true, true, true, true, true, true, true, true, true, false, false, false, false, false, false, false, false, false, false, false, false, false, false] rfl rfl (any_of HT_.out (by kernel_rfl)) (fun _ _ _ h => h) (Or.inl ⟨by rfl, ?_⟩) ?_ ?_
     rotate_left
     ·intro w'
      go_simp
      with_reducible rfl
     rotate_left
     ·simp only [Act.put, List.setIfInBounds_toArray, List.set_cons_zero, List.set_cons_succ, i64_w, i32_w]
      rfl
     refine pure_ (i := 15) (N := some 61) (v := undef) (a' := ?_) #[true, true, true, true, true, true, true, true, true, true, true, true, true, true, true, true, false, false, false, false, false, false, false, false, false, false, false, false, false] rfl rfl (any_of HT_.out (by kernel_rfl)) (fun _ _ _ h => h) (Or.inr ⟨by rfl, rfl⟩) ?_ ?_
     rotate_left
     ·simp only [Act.put, List.setIfInBounds_toArray, List.set_cons_zero, List.set_cons_succ, i64_w, i32_w]
      rfl
     refine pure_ (i := 16) (N := some 62) (v := undef) (a' := ?_) #[true, true, true, true, true, true, true, true, true, true, true, true, true, true, true, true, true, false, false, false, false, false, false, false, false, false, false, false, false] rfl rfl (any_of HT_.out (by kernel_rfl)) (fun _ _ _ h => h) (Or.inr ⟨by rfl, rfl⟩) ?_ ?_
     rotate_left
     ·simp only [Act.put, List.setIfInBounds_toArray, List.set_cons_zero, List.set_cons_succ, i64_w, i32_w]
      rfl
     refine pure_ (i := 17) (N := some 63) (v := undef) (a' := ?_) #[true, true, true, true, true, true, true, true, true, true, true, true, true, true, true, true, true, true, false, false, false, false, false, false, false, false, false, false, false] rfl rfl (any_of HT_.out (by kernel_rfl)) (fun _ _ _ h => h) (Or.inr ⟨by rfl, rfl⟩) ?_ ?_
     rotate_left
     ·simp only [Act.put, List.setIfInBounds_toArray, List.set_cons_zero, List.set_cons_succ, i64_w, i32_w]
      rfl
     refine pure_ (i := 18) (N := some 64) (v := undef) (a' := ?_) #[true, true, true, true, true, true, true, true, true, true, true, true, true, true, true, true, true, true, true, false, false, false, false, false, false, false, false, false, false] rfl rfl (any_of HT_.out (by kernel_rfl)) (fun _ _ _ h => h) (Or.inr ⟨by rfl, rfl⟩) ?_ ?_
     rotate_left
     ·simp only [Act.put, List.setIfInBounds_toArray, List.set_cons_zero, List.set_cons_succ, i64_w, i32_w]
      rfl
     refine pure_ (i := 19) (N := some 65) (v := undef) (a' := ?_) #[true, true, true, true, true, true, true, true, true, true, true, true, true, true, true, true, true, true, true, true, false, false, false, false, false, false, false, false, false] rfl rfl (any_of HT_.out (by kernel_rfl)) (fun _ _ _ h => h) (Or.inr ⟨by rfl, rfl⟩) ?_ ?_
     rotate_left
     ·simp only [Act.put, List.setIfInBounds_toArray, List.set_cons_zero, List.set_cons_succ, i64_w, i32_w]
      rfl
     refine pure_ (i := 20) (N := some 66) (v := ?_) (a' := ?_) #[true, true, true, true, true, true, true, true, true, true, true, true, true, true, true, true, true, true, true, true, true, false, false, false, false, false, false, false, false] rfl rfl (any_of HT_.out (by kernel_rfl)) (fun _ _ _ h => h) (Or.inl ⟨by rfl, ?_⟩) ?_ ?_
     rotate_left
     ·intro w'
      go_simp
      with_reducible rfl
     rotate_left
     ·simp only [Act.put, List.setIfInBounds_toArray, List.set_cons_zero, List.set_cons_succ, i64_w, i32_w]
      rfl
     refine pure_ (i := 21) (N := some 67) (v := ?_) (a' := ?_) #[true, true, true, true, true, true, true, true, true, true, true, true, true, true, true, true, true, true, true, true, true, true, false, false, false, false, false, false, false] rfl rfl (any_of HT_.out (by kernel_rfl)) (fun _ _ _ h => h) (Or.inl ⟨by rfl, ?_⟩) ?_ ?_
     rotate_left
     ·intro w'
      go_simp
      with_reducible rfl
     rotate_left
     ·simp only [Act.put, List.setIfInBounds_toArray, List.set_cons_zero, List.set_cons_succ, i64_w, i32_w]
      rfl
     refine pure_ (i := 22) (N := some 68) (v := undef) (a' := ?_) #[true, true, true, true, true, true, true, true, true, true, true, true, true, true, true, true, true, true, true, true, true, true, true, false, false, false, false, false, false] rfl rfl (any_of HT_.out (by kernel_rfl)) (fun _ _ _ h => h) (Or.inr ⟨by rfl, rfl⟩) ?_ ?_
     rotate_left
     ·simp only [Act.put, List.setIfInBounds_toArray, List.set_cons_zero, List.set_cons_succ, i64_w, i32_w]
      rfl
     refine pure_ (i := 23) (N := some 69) (v := undef) (a' := ?_) #[true, true, true, true, true, true, true, true, true, true, true, true, true, true, true, true, true, true, true, true, true, true, true, true, false, false, false, false, false] rfl rfl (any_of HT_.out (by kernel_rfl)) (fun _ _ _ h => h) (Or.inr ⟨by rfl, rfl⟩) ?_ ?_
     rotate_left
     ·simp only [Act.put, List.setIfInBounds_toArray, List.set_cons_zero, List.set_cons_succ, i64_w, i32_w]
      rfl
     refine pure_ (i := 24) (N := some 70) (v := undef) (a' := ?_) #[true, true, true, true, true, true, true, true, true, true, true, true, true, true, true, true, true, true, true, true, true, true, true, true, true, false, false, false, false] rfl rfl (any_of HT_.out (by kernel_rfl)) (fun _ _ _ h => h) (Or.inr ⟨by rfl, rfl⟩) ?_ ?_
     rotate_left
     ·simp only [Act.put, List.setIfInBounds_toArray, List.set_cons_zero, List.set_cons_succ, i64_w, i32_w]
      rfl
     refine pure_ (i := 25) (N := some 71) (v := undef) (a' := ?_) #[true, true, true, true, true, true, true, true, true, true, true, true, true, true, true, true, true, true, true, true, true, true, true, true, true, true, false, false, false] rfl rfl (any_of HT_.out (by kernel_rfl)) (fun _ _ _ h => h) (Or.inr ⟨by rfl, rfl⟩) ?_ ?_
     rotate_left
     ·simp only [Act.put, List.setIfInBounds_toArray, List.set_cons_zero, List.set_cons_succ, i64_w, i32_w]
      rfl
     refine pure_ (i := 26) (N := some 72) (v := undef) (a' := ?_) #[true, true, true, true, true, true, true, true, true, true, true, true, true, true, true, true, true, true, true, true, true, true, true, true, true, true, true, false, false] rfl rfl (any_of HT_.out (by kernel_rfl)) (fun _ _ _ h => h) (Or.inr ⟨by rfl, rfl⟩) ?_ ?_
     rotate_left
     ·simp only [Act.put, List.setIfInBounds_toArray, List.set_cons_zero, List.set_cons_succ, i64_w, i32_w]
      rfl
     refine pure_ (i := 27) (N := some 73) (v := ?_) (a' := ?_) #[true, true, true, true, true, true, true, true, true, true, true, true, true, true, true, true, true, true, true, true, true, true, true, true, true, true, true, true, false] rfl rfl (any_of HT_.out (by kernel_rfl)) (fun _ _ _ h => h) (Or.inl ⟨by rfl, ?_⟩) ?_ ?_
     rotate_left
     ·intro w'
      go_simp
      with_reducible rfl
     rotate_left
     ·simp only [Act.put, List.setIfInBounds_toArray, List.set_cons_zero, List.set_cons_succ, i64_w, i32_w]
      rfl
     refine pure_ (i := 28) (N := some 6) (v := ?_) (a' := ?_) #[true, true, true, true, true, true, true, true, true, true, true, true, true, true, true, true, true, true, true, true, true, true, true, true, true, true, true, true, true] rfl rfl (any_of HT_.out (by kernel_rfl)) (fun _ _ _ h => h) (Or.inl ⟨by rfl, ?_⟩) ?_ ?_
     rotate_left
     ·intro w'
      go_simp
      with_reducible rfl
     rotate_left
     ·simp only [Act.put, List.setIfInBounds_toArray, List.set_cons_zero, List.set_cons_succ, i64_w, i32_w]
      rfl
     refine done_ (done_of HT_.out (by kernel_rfl)) ?_
     try go_wp2
     go_ret
     exact ⟨by first | rfl | (simp [errW_none, errW_some] <;> rfl) | (simp [*, errW_none, errW_some] <;> rfl), by repeat (first | (with_reducible first | exact HB.out | apply below_alloc | apply pw_below_drewN | apply below_drew1 | refine below_set ?_ GE845.out | refine below_set ?_ GE853.out | refine below_set ?_ GE858.out) | exact HB.out)⟩
   ·replace c12 := Bool.eq_false_iff.mpr c12
    subst c12
    have H1 : (some false) = some r := by rw [if_neg (show ¬ (false = true) by decide)] at H; exact H
    clear H
    have H := H1
    clear H1
    obtain rfl := Option.some.inj H
    go_enter Try.func11, Try.ntmps11
    try go_wp2_with (first | ((with_reducible refine gate_dst (N := 3) rfl ?_); refine box_event ?hg (N := 3) ?hd (cs := #[.int .i64 a0_0, .slice A0_1 l0_1.length c0_1]) (t := 46) ?hr ?_; (case hd => rfl); (case hg => rfl); (case hr => first | (go_simp; done) | (go_simp; rfl)); intro gb845 hg w148 hbox hb; have n0_ := Aside0.mk (below_step (by repeat (first | (with_reducible first | exact HB.out | apply below_alloc | apply pw_below_drewN | apply below_drew1) | exact HB.out)) hb); have n1_ := Aside0.mk (hbox); have n2_ := Aside0.mk ((by rw [hg]; exact (below_size (by repeat (first | (with_reducible first | exact HB.out | apply below_alloc | apply pw_below_drewN | apply below_drew1) | exact HB.out))) : w.heap.size ≤ gb845)); have n3_ := Aside0.mk ((by rw [hg]; exact (below_size (by repeat (first | (with_reducible first | exact HB.out | apply below_alloc | apply pw_below_drewN | apply below_drew1) | exact HB.out))) : w.heap.size ≤ gb845)); clear HB; have HB := n0_; have BK845 := n1_; have GW845 := n2_; have GE845 := n3_; clear n0_ n1_ n2_ n3_; clear hb hbox hg) | ((with_reducible refine gate_callee (f := 20) rfl ?_); refine goesL_ (some 16) rfl rfl Try.func20 (by kernel_rfl) rfl #[] rfl (by (try simp only [List.map_toArray, List.map_cons, List.map_nil]); first | done | rfl | (simp only [List.length_drop, List.length_take]; rfl)) ?_; (with_reducible refine (tallysticklaw15_shown.calls k  false _ A4.out).mono ?_); rintro e w149 ⟨rfl, hb⟩; refine ⟨_, rfl, ?_⟩; have n0_ := Aside0.mk (blk_below (g := gb845) (by (with_reducible repeat (first|apply bN_|apply bD_|apply bA_)); exact BK845.out) hb); have n1_ := Aside0.mk (below_step (by repeat (first | (with_reducible first | exact HB.out | apply below_alloc | apply pw_below_drewN | apply below_drew1 | refine below_set ?_ GE845.out) | exact HB.out)) hb); clear BK845; clear HB; have BK845 := n0_; have HB := n1_; clear n0_ n1_; (try clear hb); (try clear hb2); (try clear hk); (try clear hi); have hcz150_0 : w149.cell? ⟨gb845, 0, none⟩ = some (.int .i64 a0_0) := (blk_cell BK845.out 0).trans rfl; have hcz150_1 : w149.cell? ⟨gb845, 1, none⟩ = some (.slice A0_1 l0_1.length c0_1) := (blk_cell BK845.out 1).trans rfl; have hfz150_0 := blk_frozen BK845.out 0; have hfz150_1 := blk_frozen BK845.out 1) | ((with_reducible refine gate_callee (f := 21) rfl ?_); refine goesL_ (some 18) rfl rfl Try.func21 (by kernel_rfl) rfl #[.agg #[.int .i64 a0_0, .slice A0_1 l0_1.length c0_1]] rfl (by (try simp only [List.map_toArray, List.map_cons, List.map_nil]); first | done | rfl | (simp only [List.length_drop, List.length_take]; rfl)) ?_; (with_reducible refine (tallystickref15_Right.calls k a0_0 _ _ l0_1 true _ ?side1 ?side2 A5.out).mono ?_); (case side1 => repeat (first | exact (Kd.C_below HR0_1.out HB.out) | (with_reducible refine Kd.C_alloc ?_ _) | (with_reducible refine Kd.C_drewN ?_ _) | (with_reducible refine Kd.C_drew ?_))); (case side2 => exact HC0_1.out); rintro e w151 ⟨rfl, hb⟩; refine ⟨_, rfl, ?_⟩; have n0_ := Aside0.mk (blk_below (g := gb845) (by (with_reducible repeat (first|apply bN_|apply bD_|apply bA_)); exact BK845.out) hb); have n1_ := Aside0.mk (below_step (by repeat (first | (with_reducible first | exact HB.out | apply below_alloc | apply pw_below_drewN | apply below_drew1 | refine below_set ?_ GE845.out) | exact HB.out)) hb); clear BK845; clear HB; have BK845 := n0_; have HB := n1_; clear n0_ n1_; (try clear hb); (try clear hb2); (try clear hk); (try clear hi); have hcz152_0 : w151.cell? ⟨gb845, 0, none⟩ = some (.int .i64 a0_0) := (blk_cell BK845.out 0).trans rfl; have hcz152_1 : w151.cell? ⟨gb845, 1, none⟩ = some (.slice A0_1 l0_1.length c0_1) := (blk_cell BK845.out 1).trans rfl; have hfz152_0 := blk_frozen BK845.out 0; have hfz152_1 := blk_frozen BK845.out 1) | ((with_reducible refine gate_callee (f := 32) rfl ?_); refine goesL_ (some 25) rfl rfl Try.func32 (by kernel_rfl) rfl #[.agg #[.int .i64 a0_0, .slice A0_1 l0_1.length c0_1], .string a1] rfl (by (try simp only [List.map_toArray, List.map_cons, List.map_nil]); first | done | rfl | (simp only [List.length_drop, List.length_take]; rfl)) ?_; (with_reducible refine (disk_Sync.calls a0_0 (fun k_ => k_ < w.heap.size) _ _ l0_1 a1 t848 t849 t852 _ ?side1 A7.out).mono ?_); (case side1 => exact Kd.V_mk HC0_1.out (Kd.F_below (Kd.C_F k55_heap HR0_1.out) (by repeat (first | (with_reducible first | exact HB.out | apply below_alloc | apply pw_below_drewN | apply below_drew1 | refine below_set ?_ GE845.out) | exact HB.out)))); rintro e w153 ⟨v850, rfl, ho0, hb⟩; refine ⟨_, rfl, ?_⟩; have n0_ := Aside0.mk (Kd.V_lower (Kd.V_mono (ok' := fun k_ => k_ ≠ gb845) ho0 (fun k_ hk_ => Or.elim hk_ (fun hs_ => fun e_ => Nat.not_le.2 hs_ (by rw [e_]; exact GW845.out)) (fun hn_ => (Kd.freshB (g := gb845) (by (with_reducible repeat (first|apply bN_|apply bD_|apply bA_)); exact BK845.out) k_ hn_)))) (below_size (by repeat (first | (with_reducible first | exact HB.out | apply below_alloc | apply pw_below_drewN | apply below_drew1 | refine below_set ?_ GE845.out) | exact HB.out)))); have n1_ := Aside0.mk (blk_below (g := gb845) (by (with_reducible repeat (first|apply bN_|apply bD_|apply bA_)); exact BK845.out) hb); have n2_ := Aside0.mk (below_step (by repeat (first | (with_reducible first | exact HB.out | apply below_alloc | apply pw_below_drewN | apply below_drew1 | refine below_set ?_ GE845.out) | exact HB.out)) hb); clear BK845; clear HB; have HO851 := n0_; have BK845 := n1_; have HB := n2_; clear n0_ n1_ n2_; (try clear hb); (try clear hb2); (try clear hk); (try clear hi); (try clear ho0)) | ((with_reducible refine gate_dst (N := 9) rfl ?_); refine box_event ?hg (N := 9) ?hd (cs := #[.int .i64 0, .slice none 0 0]) (t := 46) ?hr ?_; (case hd => rfl); (case hg => rfl); (case hr => first | (go_simp; done) | (go_simp; rfl)); intro gb853 hg w154 hbox hb; have n0_ := Aside0.mk (Kd.V_below (Kd.V_elderB (by (with_reducible repeat (first|apply vA_|apply vN_|apply vD_)); exact HO851.out) gb853 (Nat.le_of_eq hg.symm)) hb); have n1_ := Aside0.mk (blk_below (g := gb845) (by (with_reducible repeat (first|apply bN_|apply bD_|apply bA_)); exact BK845.out) hb); have n2_ := Aside0.mk (below_step (by repeat (first | (with_reducible first | exact HB.out | apply below_alloc | apply pw_below_drewN | apply below_drew1 | refine below_set ?_ GE845.out) | exact HB.out)) hb); have n3_ := Aside0.mk (hbox); have n4_ := Aside0.mk ((by rw [hg]; exact (below_size (by repeat (first | (with_reducible first | exact HB.out | apply below_alloc | apply pw_below_drewN | apply below_drew1 | refine below_set ?_ GE845.out) | exact HB.out))) : w.heap.size ≤ gb853)); have n5_ := Aside0.mk ((by rw [hg]; exact (below_size (by repeat (first | (with_reducible first | exact HB.out | apply below_alloc | apply pw_below_drewN | apply below_drew1 | refine below_set ?_ GE845.out) | exact HB.out))) : w.heap.size ≤ gb853)); have n6_ := Aside0.mk ((by rw [hg]; exact Nat.ne_of_lt (blk_lt (g := gb845) (by (with_reducible repeat (first|apply bN_|apply bD_|apply bA_)); exact BK845.out)) : gb845 ≠ gb853)); have n7_ := Aside0.mk ((by rw [hg]; exact Nat.ne_of_gt (blk_lt (g := gb845) (by (with_reducible repeat (first|apply bN_|apply bD_|apply bA_)); exact BK845.out)) : gb853 ≠ gb845)); clear HO851; clear BK845; clear HB; have HO851 := n0_; have BK845 := n1_; have HB := n2_; have BK853 := n3_; have GW853 := n4_; have GE853 := n5_; have NB845_853 := n6_; have NB853_845 := n7_; clear n0_ n1_ n2_ n3_ n4_ n5_ n6_ n7_; clear hb hbox hg; have hnb155 := NB853_845.out; have hnc155 := NB845_853.out; have hcz156_0 : w154.cell? ⟨gb853, 0, none⟩ = some (.int .i64 0) := (blk_cell BK853.out 0).trans rfl; have hcz156_1 : w154.cell? ⟨gb853, 1, none⟩ = some (.slice none 0 0) := (blk_cell BK853.out 1).trans rfl; have hfz156_0 := blk_frozen BK853.out 0; have hfz156_1 := blk_frozen BK853.out 1; obtain ⟨Ao157, co157, eo157⟩ := Kd.V_slice HO851.out; subst eo157) | ((with_reducible refine gate_store (t := 46) (p := 9) rfl ?_); refine store_event (t := 46) (p := 9) (v := ?vo_w158) (w1 := ((w154.setCell ⟨gb853, 0, none⟩ (.int .i64 t848)).setCell ⟨gb853, 1, none⟩ (.slice Ao157 t849.length co157))) ?hg ?ho ?hn ?hr ?_; (case ho => rfl); (case hg => rfl); (case hn => rfl); (case hr => first | (go_simp; done) | (go_simp; rfl)); intro w158 hw; have n0_ : Aside0 (Kd.V k55 55 w158 w.heap.size (fun k_ => k_ ≠ gb845 ∧ k_ ≠ gb853) (.slice Ao157 t849.length co157) t849) := ⟨(by rw [hw]; exact (by (with_reducible repeat (first|apply vA_|apply vN_|apply vD_)); exact Kd.V_mono (Kd.V_far (p := ⟨gb853, 1, none⟩) (Kd.V_far (p := ⟨gb853, 0, none⟩) (Kd.V_mono HO851.out (fun k_ hk => (⟨hk, hk.2⟩ : _ ∧ k_ ≠ gb853))) (fun _ hk => hk.2) (.int .i64 t848)) (fun _ hk => hk.2) (.slice Ao157 t849.length co157)) (fun _ hk => ⟨hk.1.1, hk.1.2⟩)))⟩; have n1_ : Aside0 (w158.heap[gb845]? = some (.cells #[.int .i64 a0_0, .slice A0_1 l0_1.length c0_1] 46 (0, 0))) := ⟨(by rw [hw]; exact (by (with_reducible repeat (first|apply bN_|apply bD_|apply bA_)); refine blk_far ?_ NB845_853.out _; (with_reducible repeat (first|apply bN_|apply bD_|apply bA_)); refine blk_far ?_ NB845_853.out _; (with_reducible repeat (first|apply bN_|apply bD_|apply bA_)); exact BK845.out))⟩; have n2_ : Aside0 (w158.heap[gb853]? = some (.cells #[.int .i64 t848, .slice Ao157 t849.length co157] 46 (0, 0))) := ⟨(by rw [hw]; exact (by (with_reducible repeat (first|apply bN_|apply bD_|apply bA_)); refine blk_put (cs := #[.int .i64 t848, .slice none 0 0]) ?_ 1 _ rfl; (with_reducible repeat (first|apply bN_|apply bD_|apply bA_)); refine blk_put (cs := #[.int .i64 0, .slice none 0 0]) ?_ 0 _ rfl; (with_reducible repeat (first|apply bN_|apply bD_|apply bA_)); exact BK853.out))⟩; have n3_ : Aside0 (Below w.heap.size w w158) := ⟨(by rw [hw]; exact (by repeat (first | (with_reducible first | exact HB.out | apply below_alloc | apply pw_below_drewN | apply below_drew1 | refine below_set ?_ GE845.out | refine below_set ?_ GE853.out) | exact HB.out)))⟩; clear hw; clear HO851; clear BK845; clear BK853; clear HB; have HO851 := n0_; have BK845 := n1_; have BK853 := n2_; have HB := n3_; clear n0_ n1_ n2_ n3_; have hcz159_0 : w158.cell? ⟨gb853, 0, none⟩ = some (.int .i64 t848) := (blk_cell BK853.out 0).trans rfl; have hcz159_1 : w158.cell? ⟨gb853, 1, none⟩ = some (.slice Ao157 t849.length co157) := (blk_cell BK853.out 1).trans rfl; have hfz159_0 := blk_frozen BK853.out 0; have hfz159_1 := blk_frozen BK853.out 1) | ((with_reducible refine gate_callee (f := 24) rfl ?_); refine goesL_ (some 33) rfl rfl Try.func24 (by kernel_rfl) rfl #[.agg #[.int .i64 t848, .slice Ao157 t849.length co157], .slice A2 l2.length c2] rfl (by (try simp only [List.map_toArray, List.map_cons, List.map_nil]); first | done | rfl | (simp only [List.length_drop, List.length_take]; rfl)) ?_; (with_reducible refine (disk_Crash.calls t848 (fun k_ => (k_ ≠ gb845 ∧ k_ ≠ gb853)) _ _ t849 (fun k_ => k_ < w.heap.size) _ _ l2 t854 t855 _ ?side1 ?side2 A9.out).mono ?_); (case side1 => exact HO851.out); (case side2 => exact Kd.V_mk HC2.out (Kd.F_below (Kd.C_F (Kd.heap_int .u64) HR2.out) (by repeat (first | (with_reducible first | exact HB.out | apply below_alloc | apply pw_below_drewN | apply below_drew1 | refine below_set ?_ GE845.out | refine below_set ?_ GE853.out) | exact HB.out)))); rintro e w160 ⟨v856, rfl, ho0, hb⟩; refine ⟨_, rfl, ?_⟩; have n0_ := Aside0.mk (Kd.V_below (by (with_reducible repeat (first|apply vA_|apply vN_|apply vD_)); exact HO851.out) hb); have n1_ := Aside0.mk (Kd.V_lower (Kd.V_mono (ok' := fun k_ => k_ ≠ gb845 ∧ k_ ≠ gb853) ho0 (fun k_ hk_ => ⟨Or.elim hk_ (fun hs_ => Or.elim hs_ (fun hs_ => hs_.1) (fun hs_ => fun e_ => Nat.not_le.2 hs_ (by rw [e_]; exact GW845.out))) (fun hn_ => (Kd.freshB (g := gb845) (by (with_reducible repeat (first|apply bN_|apply bD_|apply bA_)); exact BK845.out) k_ hn_)), Or.elim hk_ (fun hs_ => Or.elim hs_ (fun hs_ => hs_.2) (fun hs_ => fun e_ => Nat.not_le.2 hs_ (by rw [e_]; exact GW853.out))) (fun hn_ => (Kd.freshB (g := gb853) (by (with_reducible repeat (first|apply bN_|apply bD_|apply bA_)); exact BK853.out) k_ hn_))⟩)) (below_size (by repeat (first | (with_reducible first | exact HB.out | apply below_alloc | apply pw_below_drewN | apply below_drew1 | refine below_set ?_ GE845.out | refine below_set ?_ GE853.out) | exact HB.out)))); have n2_ := Aside0.mk (blk_below (g := gb845) (by (with_reducible repeat (first|apply bN_|apply bD_|apply bA_)); exact BK845.out) hb); have n3_ := Aside0.mk (blk_below (g := gb853) (by (with_reducible repeat (first|apply bN_|apply bD_|apply bA_)); exact BK853.out) hb); have n4_ := Aside0.mk (below_step (by repeat (first | (with_reducible first | exact HB.out | apply below_alloc | apply pw_below_drewN | apply below_drew1 | refine below_set ?_ GE845.out | refine below_set ?_ GE853.out) | exact HB.out)) hb); clear HO851; clear BK845; clear BK853; clear HB; have HO851 := n0_; have HO857 := n1_; have BK845 := n2_; have BK853 := n3_; have HB := n4_; clear n0_ n1_ n2_ n3_ n4_; (try clear hb); (try clear hb2); (try clear hk); (try clear hi); (try clear ho0)) | ((with_reducible refine gate_dst (N := 11) rfl ?_); refine box_event ?hg (N := 11) ?hd (cs := #[.int .i64 0, .slice none 0 0]) (t := 46) ?hr ?_; (case hd => rfl); (case hg => rfl); (case hr => first | (go_simp; done) | (go_simp; rfl)); intro gb858 hg w161 hbox hb; have n0_ := Aside0.mk (Kd.V_below (Kd.V_elderB (by (with_reducible repeat (first|apply vA_|apply vN_|apply vD_)); exact HO851.out) gb858 (Nat.le_of_eq hg.symm)) hb); have n1_ := Aside0.mk (Kd.V_below (Kd.V_elderB (by (with_reducible repeat (first|apply vA_|apply vN_|apply vD_)); exact HO857.out) gb858 (Nat.le_of_eq hg.symm)) hb); have n2_ := Aside0.mk (blk_below (g := gb845) (by (with_reducible repeat (first|apply bN_|apply bD_|apply bA_)); exact BK845.out) hb); have n3_ := Aside0.mk (blk_below (g := gb853) (by (with_reducible repeat (first|apply bN_|apply bD_|apply bA_)); exact BK853.out) hb); have n4_ := Aside0.mk (below_step (by repeat (first | (with_reducible first | exact HB.out | apply below_alloc | apply pw_below_drewN | apply below_drew1 | refine below_set ?_ GE845.out | refine below_set ?_ GE853.out) | exact HB.out)) hb); have n5_ := Aside0.mk (hbox); have n6_ := Aside0.mk ((by rw [hg]; exact (below_size (by repeat (first | (with_reducible first | exact HB.out | apply below_alloc | apply pw_below_drewN | apply below_drew1 | refine below_set ?_ GE845.out | refine below_set ?_ GE853.out) | exact HB.out))) : w.heap.size ≤ gb858)); have n7_ := Aside0.mk ((by rw [hg]; exact (below_size (by repeat (first | (with_reducible first | exact HB.out | apply below_alloc | apply pw_below_drewN | apply below_drew1 | refine below_set ?_ GE845.out | refine below_set ?_ GE853.out) | exact HB.out))) : w.heap.size ≤ gb858)); have n8_ := Aside0.mk ((by rw [hg]; exact Nat.ne_of_lt (blk_lt (g := gb845) (by (with_reducible repeat (first|apply bN_|apply bD_|apply bA_)); exact BK845.out)) : gb845 ≠ gb858)); have n9_ := Aside0.mk ((by rw [hg]; exact Nat.ne_of_gt (blk_lt (g := gb845) (by (with_reducible repeat (first|apply bN_|apply bD_|apply bA_)); exact BK845.out)) : gb858 ≠ gb845)); have n10_ := Aside0.mk ((by rw [hg]; exact Nat.ne_of_lt (blk_lt (g := gb853) (by (with_reducible repeat (first|apply bN_|apply bD_|apply bA_)); exact BK853.out)) : gb853 ≠ gb858)); have n11_ := Aside0.mk ((by rw [hg]; exact Nat.ne_of_gt (blk_lt (g := gb853) (by (with_reducible repeat (first|apply bN_|apply bD_|apply bA_)); exact BK853.out)) : gb858 ≠ gb853)); clear HO851; clear HO857; clear BK845; clear BK853; clear HB; have HO851 := n0_; have HO857 := n1_; have BK845 := n2_; have BK853 := n3_; have HB := n4_; have BK858 := n5_; have GW858 := n6_; have GE858 := n7_; have NB845_858 := n8_; have NB858_845 := n9_; have NB853_858 := n10_; have NB858_853 := n11_; clear n0_ n1_ n2_ n3_ n4_ n5_ n6_ n7_ n8_ n9_ n10_ n11_; clear hb hbox hg; have hnb162 := NB858_845.out; have hnc162 := NB845_858.out; have hnb163 := NB858_853.out; have hnc163 := NB853_858.out; have hcz164_0 : w161.cell? ⟨gb858, 0, none⟩ = some (.int .i64 0) := (blk_cell BK858.out 0).trans rfl; have hcz164_1 : w161.cell? ⟨gb858, 1, none⟩ = some (.slice none 0 0) := (blk_cell BK858.out 1).trans rfl; have hfz164_0 := blk_frozen BK858.out 0; have hfz164_1 := blk_frozen BK858.out 1; obtain ⟨Ao165, co165, eo165⟩ := Kd.V_slice HO857.out; subst eo165; have hcz166_0 : w161.cell? ⟨gb845, 0, none⟩ = some (.int .i64 a0_0) := (blk_cell BK845.out 0).trans rfl; have hcz166_1 : w161.cell? ⟨gb845, 1, none⟩ = some (.slice A0_1 l0_1.length c0_1) := (blk_cell BK845.out 1).trans rfl; have hfz166_0 := blk_frozen BK845.out 0; have hfz166_1 := blk_frozen BK845.out 1) | ((with_reducible refine gate_callee (f := 31) rfl ?_); refine goesL_ (some 37) rfl rfl Try.func31 (by kernel_rfl) rfl #[.agg #[.int .i64 a0_0, .slice A0_1 l0_1.length c0_1], .string a1] rfl (by (try simp only [List.map_toArray, List.map_cons, List.map_nil]); first | done | rfl | (simp only [List.length_drop, List.length_take]; rfl)) ?_; (with_reducible refine (disk_Read.calls a0_0 _ _ l0_1 a1 t859 t860 _ ?side1 ?side2 A10.out).mono ?_); (case side1 => exact Kd.C_below HR0_1.out (by repeat (first | (with_reducible first | exact HB.out | apply below_alloc | apply pw_below_drewN | apply below_drew1 | refine below_set ?_ GE845.out | refine below_set ?_ GE853.out | refine below_set ?_ GE858.out) | exact HB.out))); (case side2 => exact HC0_1.out); rintro e w167 ⟨rfl, hb⟩; refine ⟨_, rfl, ?_⟩; have n0_ := Aside0.mk (Kd.V_below (by (with_reducible repeat (first|apply vA_|apply vN_|apply vD_)); exact (Kd.V_mono (Kd.V_far (p := ⟨gb858, 1, none⟩) (Kd.V_far (p := ⟨gb858, 0, none⟩) (Kd.V_mono HO851.out (fun k_ hk => (⟨hk, hk.2⟩ : _ ∧ k_ ≠ gb858))) (fun _ hk => hk.2) (.int .i64 t854)) (fun _ hk => hk.2) (.slice Ao165 t855.length co165)) (fun _ h_ => h_.1))) hb); have n1_ := Aside0.mk (Kd.V_below (by (with_reducible repeat (first|apply vA_|apply vN_|apply vD_)); exact (Kd.V_mono (Kd.V_far (p := ⟨gb858, 1, none⟩) (Kd.V_far (p := ⟨gb858, 0, none⟩) (Kd.V_mono HO857.out (fun k_ hk => (⟨hk, hk.2⟩ : _ ∧ k_ ≠ gb858))) (fun _ hk => hk.2) (.int .i64 t854)) (fun _ hk => hk.2) (.slice Ao165 t855.length co165)) (fun _ h_ => h_.1))) hb); have n2_ := Aside0.mk (blk_below (g := gb845) (o := .cells #[.int .i64 a0_0, .slice A0_1 l0_1.length c0_1] 46 (0, 0)) (by (with_reducible repeat (first|apply bN_|apply bD_|apply bA_)); refine blk_far ?_ NB845_858.out _; (with_reducible repeat (first|apply bN_|apply bD_|apply bA_)); refine blk_far ?_ NB845_858.out _; (with_reducible repeat (first|apply bN_|apply bD_|apply bA_)); exact BK845.out) hb); have n3_ := Aside0.mk (blk_below (g := gb853) (o := .cells #[.int .i64 t848, .slice Ao157 t849.length co157] 46 (0, 0)) (by (with_reducible repeat (first|apply bN_|apply bD_|apply bA_)); refine blk_far ?_ NB853_858.out _; (with_reducible repeat (first|apply bN_|apply bD_|apply bA_)); refine blk_far ?_ NB853_858.out _; (with_reducible repeat (first|apply bN_|apply bD_|apply bA_)); exact BK853.out) hb); have n4_ := Aside0.mk (blk_below (g := gb858) (o := .cells #[.int .i64 t854, .slice Ao165 t855.length co165] 46 (0, 0)) (by (with_reducible repeat (first|apply bN_|apply bD_|apply bA_)); refine blk_put (cs := #[.int .i64 t854, .slice none 0 0]) ?_ 1 _ rfl; (with_reducible repeat (first|apply bN_|apply bD_|apply bA_)); refine blk_put (cs := #[.int .i64 0, .slice none 0 0]) ?_ 0 _ rfl; (with_reducible repeat (first|apply bN_|apply bD_|apply bA_)); exact BK858.out) hb); have n5_ := Aside0.mk (below_step (by repeat (first | (with_reducible first | exact HB.out | apply below_alloc | apply pw_below_drewN | apply below_drew1 | refine below_set ?_ GE845.out | refine below_set ?_ GE853.out | refine below_set ?_ GE858.out) | exact HB.out)) hb); clear HO851; clear HO857; clear BK845; clear BK853; clear BK858; clear HB; have HO851 := n0_; have HO857 := n1_; have BK845 := n2_; have BK853 := n3_; have BK858 := n4_; have HB := n5_; clear n0_ n1_ n2_ n3_ n4_ n5_; (try clear hb); (try clear hb2); (try clear hk); (try clear hi); have hcz168_0 : w167.cell? ⟨gb858, 0, none⟩ = some (.int .i64 t854) := (blk_cell BK858.out 0).trans rfl; have hcz168_1 : w167.cell? ⟨gb858, 1, none⟩ = some (.slice Ao165 t855.length co165) := (blk_cell BK858.out 1).trans rfl; have hfz168_0 := blk_frozen BK858.out 0; have hfz168_1 := blk_frozen BK858.out 1) | ((with_reducible refine gate_callee (f := 31) rfl ?_); refine goesL_ (some 43) rfl rfl Try.func31 (by kernel_rfl) rfl #[.agg #[.int .i64 t854, .slice Ao165 t855.length co165], .string a1] rfl (by (try simp only [List.map_toArray, List.map_cons, List.map_nil]); first | done | rfl | (simp only [List.length_drop, List.length_take]; rfl)) ?_; (with_reducible refine (disk_Read.calls t854 _ _ t855 a1 t861 t862 _ ?side1 ?side2 A11.out).mono ?_); (case side1 => repeat (first | exact (Kd.V_reads' HO857.out).2.2 | (with_reducible refine Kd.C_alloc ?_ _) | (with_reducible refine Kd.C_drewN ?_ _) | (with_reducible refine Kd.C_drew ?_))); (case side2 => exact (Kd.V_reads' HO857.out).2.1); rintro e w169 ⟨rfl, hb⟩; refine ⟨_, rfl, ?_⟩; have n0_ := Aside0.mk (Kd.V_below (by (with_reducible repeat (first|apply vA_|apply vN_|apply vD_)); exact HO851.out) hb); have n1_ := Aside0.mk (Kd.V_below (by (with_reducible repeat (first|apply vA_|apply vN_|apply vD_)); exact HO857.out) hb); have n2_ := Aside0.mk (blk_below (g := gb845) (by (with_reducible repeat (first|apply bN_|apply bD_|apply bA_)); exact BK845.out) hb); have n3_ := Aside0.mk (blk_below (g := gb853) (by (with_reducible repeat (first|apply bN_|apply bD_|apply bA_)); exact BK853.out) hb); have n4_ := Aside0.mk (blk_below (g := gb858) (by (with_reducible repeat (first|apply bN_|apply bD_|apply bA_)); exact BK858.out) hb); have n5_ := Aside0.mk (below_step (by repeat (first | (with_reducible first | exact HB.out | apply below_alloc | apply pw_below_drewN | apply below_drew1 | refine below_set ?_ GE845.out | refine below_set ?_ GE853.out | refine below_set ?_ GE858.out) | exact HB.out)) hb); clear HO851; clear HO857; clear BK845; clear BK853; clear BK858; clear HB; have HO851 := n0_; have HO857 := n1_; have BK845 := n2_; have BK853 := n3_; have BK858 := n4_; have HB := n5_; clear n0_ n1_ n2_ n3_ n4_ n5_; (try clear hb); (try clear hb2); (try clear hk); (try clear hi)))
    have n0_ := Aside0.mk (Kd.V_drew HO851.out)
    have n1_ := Aside0.mk (Kd.V_drew HO857.out)
    have n2_ := Aside0.mk (blk_drew BK845.out)
    have n3_ := Aside0.mk (blk_drew BK853.out)
    have n4_ := Aside0.mk (blk_drew BK858.out)
    have n5_ := Aside0.mk (below_drew1 HB.out)
    clear HO851
    clear HO857
    clear BK845
    clear BK853
    clear BK858
    clear HB
    have HO851 := n0_
    have HO857 := n1_
    have BK845 := n2_
    have BK853 := n3_
    have BK858 := n4_
    have HB := n5_
    clear n0_ n1_ n2_ n3_ n4_ n5_
    refine start_ (n := 29) (S := fun w' => True) (ds := []) #[false, false, false, false, false, false, false, false, false, false, false, false, false, false, false, false, false, false, false, false, false, false, false, false, false, false, false, false, false] (by kernel_rfl) rfl rfl trivial (fun hHeld => ?_); refine with_tabW tallysticklaw15_DiskSafe.tab11 tallysticklaw15_DiskSafe.bits11 (fun HT_ HW_ => ?_)
    generalize w169.drew = w170 at HO851 HO857 BK845 BK853 BK858 HB hHeld ⊢
    refine pure_ (i := 0) (N := some 46) (v := ?_) (a' := ?_) #[true, false, false, false, false, false, false, false, false, false, false, false, false, false, false, false, false, false, false, false, false, false, false, false, false, false, false, false, false] rfl rfl (any_of HT_.out (by kernel_rfl)) (fun _ _ _ h => h) (Or.inl ⟨by rfl, ?_⟩) ?_ ?_
    rotate_left
    ·intro w'
     go_simp
     with_reducible rfl
    rotate_left
    ·simp only [Act.put, List.setIfInBounds_toArray, List.set_cons_zero, List.set_cons_succ, i64_w, i32_w]
     rfl
    refine pure_ (i := 1) (N := some 47) (v := ?_) (a' := ?_) #[true, true, false, false, false, false, false, false, false, false, false, false, false, false, false, false, false, false, false, false, false, false, false, false, false, false, false, false, false] rfl rfl (any_of HT_.out (by kernel_rfl)) (fun _ _ _ h => h) (Or.inl ⟨by rfl, ?_⟩) ?_ ?_
    rotate_left
    ·intro w'
     go_simp
     with_reducible rfl
    rotate_left
    ·simp only [Act.put, List.setIfInBounds_toArray, List.set_cons_zero, List.set_cons_succ, i64_w, i32_w]
     rfl
    refine pure_ (i := 2) (N := some 48) (v := undef) (a' := ?_) #[true, true, true, false, false, false, false, false, false, false, false, false, false, false, false, false, false, false, false, false, false, false, false, false, false, false, false, false, false] rfl rfl (any_of HT_.out (by kernel_rfl)) (fun _ _ _ h => h) (Or.inr ⟨by rfl, rfl⟩) ?_ ?_
    rotate_left
    ·simp only [Act.put, List.setIfInBounds_toArray, List.set_cons_zero, List.set_cons_succ, i64_w, i32_w]
     rfl
    refine pure_ (i := 3) (N := some 49) (v := undef) (a' := ?_) #[true, true, true, true, false, false, false, false, false, false, false, false, false, false, false, false, false, false, false, false, false, false, false, false, false, false, false, false, false] rfl rfl (any_of HT_.out (by kernel_rfl)) (fun _ _ _ h => h) (Or.inr ⟨by rfl, rfl⟩) ?_ ?_
    rotate_left
    ·simp only [Act.put, List.setIfInBounds_toArray, List.set_cons_zero, List.set_cons_succ, i64_w, i32_w]
     rfl
    refine pure_ (i := 4) (N := some 50) (v := ?_) (a' := ?_) #[true, true, true, true, true, false, false, false, false, false, false, false, false, false, false, false, false, false, false, false, false, false, false, false, false, false, false, false, false] rfl rfl (any_of HT_.out (by kernel_rfl)) (fun _ _ _ h => h) (Or.inl ⟨by rfl, ?_⟩) ?_ ?_
    rotate_left
    ·intro w'
     go_simp
     with_reducible rfl
    rotate_left
    ·simp only [Act.put, List.setIfInBounds_toArray, List.set_cons_zero, List.set_cons_succ, i64_w, i32_w]
     rfl
    refine pure_ (i := 5) (N := some 51) (v := ?_) (a' := ?_) #[true, true, true, true, true, true, false, false, false, false, false, false, false, false, false, false, false, false, false, false, false, false, false, false, false, false, false, false, false] rfl rfl (any_of HT_.out (by kernel_rfl)) (fun _ _ _ h => h) (Or.inl ⟨by rfl, ?_⟩) ?_ ?_
    rotate_left
    ·intro w'
     go_simp
     with_reducible rfl
    rotate_left
    ·simp only [Act.put, List.setIfInBounds_toArray, List.set_cons_zero, List.set_cons_succ, i64_w, i32_w]
     rfl
    refine pure_ (i := 6) (N := some 52) (v := undef) (a' := ?_) #[true, true, true, true, true, true, true, false, false, false, false, false, false, false, false, false, false, false, false, false, false, false, false, false, false, false, false, false, false] rfl rfl (any_of HT_.out (by kernel_rfl)) (fun _ _ _ h => h) (Or.inr ⟨by rfl, rfl⟩) ?_ ?_
    rotate_left
    ·simp only [Act.put, List.setIfInBounds_toArray, List.set_cons_zero, List.set_cons_succ, i64_w, i32_w]
     rfl
    refine pure_ (i := 7) (N := some 53) (v := undef) (a' := ?_) #[true, true, true, true, true, true, true, true, false, false, false, false, false, false, false, false, false, false, false, false, false, false, false, false, false, false, false, false, false] rfl rfl (any_of HT_.out (by kernel_rfl)) (fun _ _ _ h => h) (Or.inr ⟨by rfl, rfl⟩) ?_ ?_
    rotate_left
    ·simp only [Act.put, List.setIfInBounds_toArray, List.set_cons_zero, List.set_cons_succ, i64_w, i32_w]
     rfl
    refine pure_ (i := 8) (N := some 54) (v := ?_) (a' := ?_) #[true, true, true, true, true, true, true, true, true, false, false, false, false, false, false, false, false, false, false, false, false, false, false, false, false, false, false, false, false] rfl rfl (any_of HT_.out (by kernel_rfl)) (fun _ _ _ h => h) (Or.inl ⟨by rfl, ?_⟩) ?_ ?_
    rotate_left
    ·intro w'
     go_simp
     with_reducible rfl
    rotate_left
    ·simp only [Act.put, List.setIfInBounds_toArray, List.set_cons_zero, List.set_cons_succ, i64_w, i32_w]
     rfl
    refine pure_ (i := 9) (N := some 55) (v := ?_) (a' := ?_) #[true, true, true, true, true, true, true, true, true, true, false, false, false, false, false, false, false, false, false, false, false, false, false, false, false, false, false, false, false] rfl rfl (any_of HT_.out (by kernel_rfl)) (fun _ _ _ h => h) (Or.inl ⟨by rfl, ?_⟩) ?_ ?_
    rotate_left
    ·intro w'
     go_simp
     with_reducible rfl
    rotate_left
    ·simp only [Act.put, List.setIfInBounds_toArray, List.set_cons_zero, List.set_cons_succ, i64_w, i32_w]
     rfl
    refine pure_ (i := 10) (N := some 56) (v := undef) (a' := ?_) #[true, true, true, true, true, true, true, true, true, true, true, false, false, false, false, false, false, false, false, false, false, false, false, false, false, false, false, false, false] rfl rfl (any_of HT_.out (by kernel_rfl)) (fun _ _ _ h => h) (Or.inr ⟨by rfl, rfl⟩) ?_ ?_
    rotate_left
    ·simp only [Act.put, List.setIfInBounds_toArray, List.set_cons_zero, List.set_cons_succ, i64_w, i32_w]
     rfl
    refine pure_ (i := 11) (N := some 57) (v := undef) (a' := ?_) #[true, true, true, true, true, true, true, true, true, true, true, true, false, false, false, false, false, false, false, false, false, false, false, false, false, false, false, false, false] rfl rfl (any_of HT_.out (by kernel_rfl)) (fun _ _ _ h => h) (Or.inr ⟨by rfl, rfl⟩) ?_ ?_
    rotate_left
    ·simp only [Act.put, List.setIfInBounds_toArray, List.set_cons_zero, List.set_cons_succ, i64_w, i32_w]
     rfl
    refine pure_ (i := 12) (N := some 58) (v := undef) (a' := ?_) #[true, true, true, true, true, true, true, true, true, true, true, true, true, false, false, false, false, false, false, false, false, false, false, false, false, false, false, false, false] rfl rfl (any_of HT_.out (by kernel_rfl)) (fun _ _ _ h => h) (Or.inr ⟨by rfl, rfl⟩) ?_ ?_
    rotate_left
    ·simp only [Act.put, List.setIfInBounds_toArray, List.set_cons_zero, List.set_cons_succ, i64_w, i32_w]
     rfl
    refine pure_ (i := 13) (N := some 59) (v := ?_) (a' := ?_) #[true, true, true, true, true, true, true, true, true, true, true, true, true, true, false, false, false, false, false, false, false, false, false, false, false, false, false, false, false] rfl rfl (any_of HT_.out (by kernel_rfl)) (fun _ _ _ h => h) (Or.inl ⟨by rfl, ?_⟩) ?_ ?_
    rotate_left
    ·intro w'
     go_simp
     with_reducible rfl
    rotate_left
    ·simp only [Act.put, List.setIfInBounds_toArray, List.set_cons_zero, List.set_cons_succ, i64_w, i32_w]
     rfl
    refine pure_ (i := 14) (N := some 60) (v := ?_) (a' := ?_) #[true, true, true, true, true, true, true, true, true, true, true, true, true, true, true, false, false, false, false, false, false, false, false, false, false, false, false, false, false] rfl rfl (any_of HT_.out (by kernel_rfl)) (fun _ _ _ h => h) (Or.inl ⟨by rfl, ?_⟩) ?_ ?_
    rotate_left
    ·intro w'
     go_simp
     with_reducible rfl
    rotate_left
    ·simp only [Act.put, List.setIfInBounds_toArray, List.set_cons_zero, List.set_cons_succ, i64_w, i32_w]
     rfl
    refine pure_ (i := 15) (N := some 61) (v := undef) (a' := ?_) #[true, true, true, true, true, true, true, true, true, true, true, true, true, true, true, true, false, false, false, false, false, false, false, false, false, false, false, false, false] rfl rfl (any_of HT_.out (by kernel_rfl)) (fun _ _ _ h => h) (Or.inr ⟨by rfl, rfl⟩) ?_ ?_
    rotate_left
    ·simp only [Act.put, List.setIfInBounds_toArray, List.set_cons_zero, List.set_cons_succ, i64_w, i32_w]
     rfl
    refine pure_ (i := 16) (N := some 62) (v := undef) (a' := ?_) #[true, true, true, true, true, true, true, true, true, true, true, true, true, true, true, true, true, false, false, false, false, false, false, false, false, false, false, false, false] rfl rfl (any_of HT_.out (by kernel_rfl)) (fun _ _ _ h => h) (Or.inr ⟨by rfl, rfl⟩) ?_ ?_
    rotate_left
    ·simp only [Act.put, List.setIfInBounds_toArray, List.set_cons_zero, List.set_cons_succ, i64_w, i32_w]
     rfl
    refine pure_ (i := 17) (N := some 63) (v := undef) (a' := ?_) #[true, true, true, true, true, true, true, true, true, true, true, true, true, true, true, true, true, true, false, false, false, false, false, false, false, false, false, false, false] rfl rfl (any_of HT_.out (by kernel_rfl)) (fun _ _ _ h => h) (Or.inr ⟨by rfl, rfl⟩) ?_ ?_
    rotate_left
    ·simp only [Act.put, List.setIfInBounds_toArray, List.set_cons_zero, List.set_cons_succ, i64_w, i32_w]
     rfl
    refine pure_ (i := 18) (N := some 64) (v := undef) (a' := ?_) #[true, true, true, true, true, true, true, true, true, true, true, true, true, true, true, true, true, true, true, false, false, false, false, false, false, false, false, false, false] rfl rfl (any_of HT_.out (by kernel_rfl)) (fun _ _ _ h => h) (Or.inr ⟨by rfl, rfl⟩) ?_ ?_
    rotate_left
    ·simp only [Act.put, List.setIfInBounds_toArray, List.set_cons_zero, List.set_cons_succ, i64_w, i32_w]
     rfl
    refine pure_ (i := 19) (N := some 65) (v := undef) (a' := ?_) #[true, true, true, true, true, true, true, true, true, true, true, true, true, true, true, true, true, true, true, true, false, false, false, false, false, false, false, false, false] rfl rfl (any_of HT_.out (by kernel_rfl)) (fun _ _ _ h => h) (Or.inr ⟨by rfl, rfl⟩) ?_ ?_
    rotate_left
    ·simp only [Act.put, List.setIfInBounds_toArray, List.set_cons_zero, List.set_cons_succ, i64_w, i32_w]
     rfl
    refine pure_ (i := 20) (N := some 66) (v := ?_) (a' := ?_) #[true, true, true, true, true, true, true, true, true, true, true, true, true, true, true, true, true, true, true, true, true, false, false, false, false, false, false, false, false] rfl rfl (any_of HT_.out (by kernel_rfl)) (fun _ _ _ h => h) (Or.inl ⟨by rfl, ?_⟩) ?_ ?_
    rotate_left
    ·intro w'
     go_simp
     with_reducible rfl
    rotate_left
    ·simp only [Act.put, List.setIfInBounds_toArray, List.set_cons_zero, List.set_cons_succ, i64_w, i32_w]
     rfl
    refine pure_ (i := 21) (N := some 67) (v := ?_) (a' := ?_) #[true, true, true, true, true, true, true, true, true, true, true, true, true, true, true, true, true, true, true, true, true, true, false, false, false, false, false, false, false] rfl rfl (any_of HT_.out (by kernel_rfl)) (fun _ _ _ h => h) (Or.inl ⟨by rfl, ?_⟩) ?_ ?_
    rotate_left
    ·intro w'
     go_simp
     with_reducible rfl
    rotate_left
    ·simp only [Act.put, List.setIfInBounds_toArray, List.set_cons_zero, List.set_cons_succ, i64_w, i32_w]
     rfl
    refine pure_ (i := 22) (N := some 68) (v := undef) (a' := ?_) #[true, true, true, true, true, true, true, true, true, true, true, true, true, true, true, true, true, true, true, true, true, true, true, false, false, false, false, false, false] rfl rfl (any_of HT_.out (by kernel_rfl)) (fun _ _ _ h => h) (Or.inr ⟨by rfl, rfl⟩) ?_ ?_
    rotate_left
    ·simp only [Act.put, List.setIfInBounds_toArray, List.set_cons_zero, List.set_cons_succ, i64_w, i32_w]
     rfl
    refine pure_ (i := 23) (N := some 69) (v := undef) (a' := ?_) #[true, true, true, true, true, true, true, true, true, true, true, true, true, true, true, true, true, true, true, true, true, true, true, true, false, false, false, false, false] rfl rfl (any_of HT_.out (by kernel_rfl)) (fun _ _ _ h => h) (Or.inr ⟨by rfl, rfl⟩) ?_ ?_
    rotate_left
    ·simp only [Act.put, List.setIfInBounds_toArray, List.set_cons_zero, List.set_cons_succ, i64_w, i32_w]
     rfl
    refine pure_ (i := 24) (N := some 70) (v := undef) (a' := ?_) #[true, true, true, true, true, true, true, true, true, true, true, true, true, true, true, true, true, true, true, true, true, true, true, true, true, false, false, false, false] rfl rfl (any_of HT_.out (by kernel_rfl)) (fun _ _ _ h => h) (Or.inr ⟨by rfl, rfl⟩) ?_ ?_
    rotate_left
    ·simp only [Act.put, List.setIfInBounds_toArray, List.set_cons_zero, List.set_cons_succ, i64_w, i32_w]
     rfl
    refine pure_ (i := 25) (N := some 71) (v := undef) (a' := ?_) #[true, true, true, true, true, true, true, true, true, true, true, true, true, true, true, true, true, true, true, true, true, true, true, true, true, true, false, false, false] rfl rfl (any_of HT_.out (by kernel_rfl)) (fun _ _ _ h => h) (Or.inr ⟨by rfl, rfl⟩) ?_ ?_
    rotate_left
    ·simp only [Act.put, List.setIfInBounds_toArray, List.set_cons_zero, List.set_cons_succ, i64_w, i32_w]
     rfl
    refine pure_ (i := 26) (N := some 72) (v := undef) (a' := ?_) #[true, true, true, true, true, true, true, true, true, true, true, true, true, true, true, true, true, true, true, true, true, true, true, true, true, true, true, false, false] rfl rfl (any_of HT_.out (by kernel_rfl)) (fun _ _ _ h => h) (Or.inr ⟨by rfl, rfl⟩) ?_ ?_
    rotate_left
    ·simp only [Act.put, List.setIfInBounds_toArray, List.set_cons_zero, List.set_cons_succ, i64_w, i32_w]
     rfl
    refine pure_ (i := 27) (N := some 73) (v := ?_) (a' := ?_) #[true, true, true, true, true, true, true, true, true, true, true, true, true, true, true, true, true, true, true, true, true, true, true, true, true, true, true, true, false] rfl rfl (any_of HT_.out (by kernel_rfl)) (fun _ _ _ h => h) (Or.inl ⟨by rfl, ?_⟩) ?_ ?_
    rotate_left
    ·intro w'
     go_simp
     with_reducible rfl
    rotate_left
    ·simp only [Act.put, List.setIfInBounds_toArray, List.set_cons_zero, List.set_cons_succ, i64_w, i32_w]
     rfl
    refine pure_ (i := 28) (N := some 6) (v := ?_) (a' := ?_) #[true, true, true, true, true, true, true, true, true, true, true, true, true, true, true, true, true, true, true, true, true, true, true, true, true, true, true, true, true] rfl rfl (any_of HT_.out (by kernel_rfl)) (fun _ _ _ h => h) (Or.inl ⟨by rfl, ?_⟩) ?_ ?_
    rotate_left
    ·intro w'
     go_simp
     with_reducible rfl
    rotate_left
    ·simp only [Act.put, List.setIfInBounds_toArray, List.set_cons_zero, List.set_cons_succ, i64_w, i32_w]
     rfl
    refine done_ (done_of HT_.out (by kernel_rfl)) ?_
    try go_wp2
    go_ret
    exact ⟨by first | rfl | (simp [errW_none, errW_some] <;> rfl) | (simp [*, errW_none, errW_some] <;> rfl), by repeat (first | (with_reducible first | exact HB.out | apply below_alloc | apply pw_below_drewN | apply below_drew1 | refine below_set ?_ GE845.out | refine below_set ?_ GE853.out | refine below_set ?_ GE858.out) | exact HB.out)⟩
  ·rw [if_neg c8] at H
   have c8b0 : (t852 == 0) = false := beq_eq_false_iff_ne.mpr c8
   have c8b1 : (t852 != 0) = true := bne_iff_ne.mpr c8
   obtain rfl := Option.some.inj H
   go_enter Try.func11, Try.ntmps11
   go_wp2_with (first | ((with_reducible refine gate_dst (N := 3) rfl ?_); refine box_event ?hg (N := 3) ?hd (cs := #[.int .i64 a0_0, .slice A0_1 l0_1.length c0_1]) (t := 46) ?hr ?_; (case hd => rfl); (case hg => rfl); (case hr => first | (go_simp; done) | (go_simp; rfl)); intro gb845 hg w171 hbox hb; have n0_ := Aside0.mk (below_step (by repeat (first | (with_reducible first | exact HB.out | apply below_alloc | apply pw_below_drewN | apply below_drew1) | exact HB.out)) hb); have n1_ := Aside0.mk (hbox); have n2_ := Aside0.mk ((by rw [hg]; exact (below_size (by repeat (first | (with_reducible first | exact HB.out | apply below_alloc | apply pw_below_drewN | apply below_drew1) | exact HB.out))) : w.heap.size ≤ gb845)); have n3_ := Aside0.mk ((by rw [hg]; exact (below_size (by repeat (first | (with_reducible first | exact HB.out | apply below_alloc | apply pw_below_drewN | apply below_drew1) | exact HB.out))) : w.heap.size ≤ gb845)); clear HB; have HB := n0_; have BK845 := n1_; have GW845 := n2_; have GE845 := n3_; clear n0_ n1_ n2_ n3_; clear hb hbox hg) | ((with_reducible refine gate_callee (f := 20) rfl ?_); refine goesL_ (some 16) rfl rfl Try.func20 (by kernel_rfl) rfl #[] rfl (by (try simp only [List.map_toArray, List.map_cons, List.map_nil]); first | done | rfl | (simp only [List.length_drop, List.length_take]; rfl)) ?_; (with_reducible refine (tallysticklaw15_shown.calls k  t846 _ A4.out).mono ?_); rintro e w172 ⟨rfl, hb⟩; refine ⟨_, rfl, ?_⟩; have n0_ := Aside0.mk (blk_below (g := gb845) (by (with_reducible repeat (first|apply bN_|apply bD_|apply bA_)); exact BK845.out) hb); have n1_ := Aside0.mk (below_step (by repeat (first | (with_reducible first | exact HB.out | apply below_alloc | apply pw_below_drewN | apply below_drew1 | refine below_set ?_ GE845.out) | exact HB.out)) hb); clear BK845; clear HB; have BK845 := n0_; have HB := n1_; clear n0_ n1_; (try clear hb); (try clear hb2); (try clear hk); (try clear hi); have hcz173_0 : w172.cell? ⟨gb845, 0, none⟩ = some (.int .i64 a0_0) := (blk_cell BK845.out 0).trans rfl; have hcz173_1 : w172.cell? ⟨gb845, 1, none⟩ = some (.slice A0_1 l0_1.length c0_1) := (blk_cell BK845.out 1).trans rfl; have hfz173_0 := blk_frozen BK845.out 0; have hfz173_1 := blk_frozen BK845.out 1) | ((with_reducible refine gate_callee (f := 21) rfl ?_); refine goesL_ (some 18) rfl rfl Try.func21 (by kernel_rfl) rfl #[.agg #[.int .i64 a0_0, .slice A0_1 l0_1.length c0_1]] rfl (by (try simp only [List.map_toArray, List.map_cons, List.map_nil]); first | done | rfl | (simp only [List.length_drop, List.length_take]; rfl)) ?_; (with_reducible refine (tallystickref15_Right.calls k a0_0 _ _ l0_1 true _ ?side1 ?side2 A5.out).mono ?_); (case side1 => repeat (first | exact (Kd.C_below HR0_1.out HB.out) | (with_reducible refine Kd.C_alloc ?_ _) | (with_reducible refine Kd.C_drewN ?_ _) | (with_reducible refine Kd.C_drew ?_))); (case side2 => exact HC0_1.out); rintro e w174 ⟨rfl, hb⟩; refine ⟨_, rfl, ?_⟩; have n0_ := Aside0.mk (blk_below (g := gb845) (by (with_reducible repeat (first|apply bN_|apply bD_|apply bA_)); exact BK845.out) hb); have n1_ := Aside0.mk (below_step (by repeat (first | (with_reducible first | exact HB.out | apply below_alloc | apply pw_below_drewN | apply below_drew1 | refine below_set ?_ GE845.out) | exact HB.out)) hb); clear BK845; clear HB; have BK845 := n0_; have HB := n1_; clear n0_ n1_; (try clear hb); (try clear hb2); (try clear hk); (try clear hi); have hcz175_0 : w174.cell? ⟨gb845, 0, none⟩ = some (.int .i64 a0_0) := (blk_cell BK845.out 0).trans rfl; have hcz175_1 : w174.cell? ⟨gb845, 1, none⟩ = some (.slice A0_1 l0_1.length c0_1) := (blk_cell BK845.out 1).trans rfl; have hfz175_0 := blk_frozen BK845.out 0; have hfz175_1 := blk_frozen BK845.out 1) | ((with_reducible refine gate_callee (f := 32) rfl ?_); refine goesL_ (some 25) rfl rfl Try.func32 (by kernel_rfl) rfl #[.agg #[.int .i64 a0_0, .slice A0_1 l0_1.length c0_1], .string a1] rfl (by (try simp only [List.map_toArray, List.map_cons, List.map_nil]); first | done | rfl | (simp only [List.length_drop, List.length_take]; rfl)) ?_; (with_reducible refine (disk_Sync.calls a0_0 (fun k_ => k_ < w.heap.size) _ _ l0_1 a1 t848 t849 t852 _ ?side1 A7.out).mono ?_); (case side1 => exact Kd.V_mk HC0_1.out (Kd.F_below (Kd.C_F k55_heap HR0_1.out) (by repeat (first | (with_reducible first | exact HB.out | apply below_alloc | apply pw_below_drewN | apply below_drew1 | refine below_set ?_ GE845.out) | exact HB.out)))); rintro e w176 ⟨v850, rfl, ho0, hb⟩; refine ⟨_, rfl, ?_⟩; have n0_ := Aside0.mk (Kd.V_lower (Kd.V_mono (ok' := fun k_ => k_ ≠ gb845) ho0 (fun k_ hk_ => Or.elim hk_ (fun hs_ => fun e_ => Nat.not_le.2 hs_ (by rw [e_]; exact GW845.out)) (fun hn_ => (Kd.freshB (g := gb845) (by (with_reducible repeat (first|apply bN_|apply bD_|apply bA_)); exact BK845.out) k_ hn_)))) (below_size (by repeat (first | (with_reducible first | exact HB.out | apply below_alloc | apply pw_below_drewN | apply below_drew1 | refine below_set ?_ GE845.out) | exact HB.out)))); have n1_ := Aside0.mk (blk_below (g := gb845) (by (with_reducible repeat (first|apply bN_|apply bD_|apply bA_)); exact BK845.out) hb); have n2_ := Aside0.mk (below_step (by repeat (first | (with_reducible first | exact HB.out | apply below_alloc | apply pw_below_drewN | apply below_drew1 | refine below_set ?_ GE845.out) | exact HB.out)) hb); clear BK845; clear HB; have HO851 := n0_; have BK845 := n1_; have HB := n2_; clear n0_ n1_ n2_; (try clear hb); (try clear hb2); (try clear hk); (try clear hi); (try clear ho0)) | ((with_reducible refine gate_dst (N := 9) rfl ?_); refine box_event ?hg (N := 9) ?hd (cs := #[.int .i64 0, .slice none 0 0]) (t := 46) ?hr ?_; (case hd => rfl); (case hg => rfl); (case hr => first | (go_simp; done) | (go_simp; rfl)); intro gb853 hg w177 hbox hb; have n0_ := Aside0.mk (Kd.V_below (Kd.V_elderB (by (with_reducible repeat (first|apply vA_|apply vN_|apply vD_)); exact HO851.out) gb853 (Nat.le_of_eq hg.symm)) hb); have n1_ := Aside0.mk (blk_below (g := gb845) (by (with_reducible repeat (first|apply bN_|apply bD_|apply bA_)); exact BK845.out) hb); have n2_ := Aside0.mk (below_step (by repeat (first | (with_reducible first | exact HB.out | apply below_alloc | apply pw_below_drewN | apply below_drew1 | refine below_set ?_ GE845.out) | exact HB.out)) hb); have n3_ := Aside0.mk (hbox); have n4_ := Aside0.mk ((by rw [hg]; exact (below_size (by repeat (first | (with_reducible first | exact HB.out | apply below_alloc | apply pw_below_drewN | apply below_drew1 | refine below_set ?_ GE845.out) | exact HB.out))) : w.heap.size ≤ gb853)); have n5_ := Aside0.mk ((by rw [hg]; exact (below_size (by repeat (first | (with_reducible first | exact HB.out | apply below_alloc | apply pw_below_drewN | apply below_drew1 | refine below_set ?_ GE845.out) | exact HB.out))) : w.heap.size ≤ gb853)); have n6_ := Aside0.mk ((by rw [hg]; exact Nat.ne_of_lt (blk_lt (g := gb845) (by (with_reducible repeat (first|apply bN_|apply bD_|apply bA_)); exact BK845.out)) : gb845 ≠ gb853)); have n7_ := Aside0.mk ((by rw [hg]; exact Nat.ne_of_gt (blk_lt (g := gb845) (by (with_reducible repeat (first|apply bN_|apply bD_|apply bA_)); exact BK845.out)) : gb853 ≠ gb845)); clear HO851; clear BK845; clear HB; have HO851 := n0_; have BK845 := n1_; have HB := n2_; have BK853 := n3_; have GW853 := n4_; have GE853 := n5_; have NB845_853 := n6_; have NB853_845 := n7_; clear n0_ n1_ n2_ n3_ n4_ n5_ n6_ n7_; clear hb hbox hg; have hnb178 := NB853_845.out; have hnc178 := NB845_853.out; have hcz179_0 : w177.cell? ⟨gb853, 0, none⟩ = some (.int .i64 0) := (blk_cell BK853.out 0).trans rfl; have hcz179_1 : w177.cell? ⟨gb853, 1, none⟩ = some (.slice none 0 0) := (blk_cell BK853.out 1).trans rfl; have hfz179_0 := blk_frozen BK853.out 0; have hfz179_1 := blk_frozen BK853.out 1; obtain ⟨Ao180, co180, eo180⟩ := Kd.V_slice HO851.out; subst eo180))
   go_ret
   exact ⟨by first | rfl | (simp [errW_none, errW_some] <;> rfl) | (simp [*, errW_none, errW_some] <;> rfl), by repeat (first | (with_reducible first | exact HB.out | apply below_alloc | apply pw_below_drewN | apply below_drew1 | refine below_set ?_ GE845.out | refine below_set ?_ GE853.out) | exact HB.out)⟩
 ·replace c6 := Bool.eq_false_iff.mpr c6
  subst c6
  have H1 : (some t846) = some r := by rw [if_neg (show ¬ (false = true) by decide)] at H; exact H
  clear H
  have H := H1
  clear H1
  obtain rfl := Option.some.inj H
  go_enter Try.func11, Try.ntmps11
  go_wp2_with (first | ((with_reducible refine gate_dst (N := 3) rfl ?_); refine box_event ?hg (N := 3) ?hd (cs := #[.int .i64 a0_0, .slice A0_1 l0_1.length c0_1]) (t := 46) ?hr ?_; (case hd => rfl); (case hg => rfl); (case hr => first | (go_simp; done) | (go_simp; rfl)); intro gb845 hg w181 hbox hb; have n0_ := Aside0.mk (below_step (by repeat (first | (with_reducible first | exact HB.out | apply below_alloc | apply pw_below_drewN | apply below_drew1) | exact HB.out)) hb); have n1_ := Aside0.mk (hbox); have n2_ := Aside0.mk ((by rw [hg]; exact (below_size (by repeat (first | (with_reducible first | exact HB.out | apply below_alloc | apply pw_below_drewN | apply below_drew1) | exact HB.out))) : w.heap.size ≤ gb845)); have n3_ := Aside0.mk ((by rw [hg]; exact (below_size (by repeat (first | (with_reducible first | exact HB.out | apply below_alloc | apply pw_below_drewN | apply below_drew1) | exact HB.out))) : w.heap.size ≤ gb845)); clear HB; have HB := n0_; have BK845 := n1_; have GW845 := n2_; have GE845 := n3_; clear n0_ n1_ n2_ n3_; clear hb hbox hg) | ((with_reducible refine gate_callee (f := 20) rfl ?_); refine goesL_ (some 16) rfl rfl Try.func20 (by kernel_rfl) rfl #[] rfl (by (try simp only [List.map_toArray, List.map_cons, List.map_nil]); first | done | rfl | (simp only [List.length_drop, List.length_take]; rfl)) ?_; (with_reducible refine (tallysticklaw15_shown.calls k  t846 _ A4.out).mono ?_); rintro e w182 ⟨rfl, hb⟩; refine ⟨_, rfl, ?_⟩; have n0_ := Aside0.mk (blk_below (g := gb845) (by (with_reducible repeat (first|apply bN_|apply bD_|apply bA_)); exact BK845.out) hb); have n1_ := Aside0.mk (below_step (by repeat (first | (with_reducible first | exact HB.out | apply below_alloc | apply pw_below_drewN | apply below_drew1 | refine below_set ?_ GE845.out) | exact HB.out)) hb); clear BK845; clear HB; have BK845 := n0_; have HB := n1_; clear n0_ n1_; (try clear hb); (try clear hb2); (try clear hk); (try clear hi); have hcz183_0 : w182.cell? ⟨gb845, 0, none⟩ = some (.int .i64 a0_0) := (blk_cell BK845.out 0).trans rfl; have hcz183_1 : w182.cell? ⟨gb845, 1, none⟩ = some (.slice A0_1 l0_1.length c0_1) := (blk_cell BK845.out 1).trans rfl; have hfz183_0 := blk_frozen BK845.out 0; have hfz183_1 := blk_frozen BK845.out 1) | ((with_reducible refine gate_callee (f := 21) rfl ?_); refine goesL_ (some 18) rfl rfl Try.func21 (by kernel_rfl) rfl #[.agg #[.int .i64 a0_0, .slice A0_1 l0_1.length c0_1]] rfl (by (try simp only [List.map_toArray, List.map_cons, List.map_nil]); first | done | rfl | (simp only [List.length_drop, List.length_take]; rfl)) ?_; (with_reducible refine (tallystickref15_Right.calls k a0_0 _ _ l0_1 false _ ?side1 ?side2 A5.out).mono ?_); (case side1 => repeat (first | exact (Kd.C_below HR0_1.out HB.out) | (with_reducible refine Kd.C_alloc ?_ _) | (with_reducible refine Kd.C_drewN ?_ _) | (with_reducible refine Kd.C_drew ?_))); (case side2 => exact HC0_1.out); rintro e w184 ⟨rfl, hb⟩; refine ⟨_, rfl, ?_⟩; have n0_ := Aside0.mk (blk_below (g := gb845) (by (with_reducible repeat (first|apply bN_|apply bD_|apply bA_)); exact BK845.out) hb); have n1_ := Aside0.mk (below_step (by repeat (first | (with_reducible first | exact HB.out | apply below_alloc | apply pw_below_drewN | apply below_drew1 | refine below_set ?_ GE845.out) | exact HB.out)) hb); clear BK845; clear HB; have BK845 := n0_; have HB := n1_; clear n0_ n1_; (try clear hb); (try clear hb2); (try clear hk); (try clear hi)))
  go_ret
  exact ⟨by first | rfl | (simp [errW_none, errW_some] <;> rfl) | (simp [*, errW_none, errW_some] <;> rfl), by repeat (first | (with_reducible first | exact HB.out | apply below_alloc | apply pw_below_drewN | apply below_drew1 | refine below_set ?_ GE845.out) | exact HB.out)⟩

end Go.Proofs.Ytbpobnlkfpjijaa.Pr
