-- Laid by a program (wip/merge.py): texts of this claim, one behind the other.
import Derived.Test.YtbpobnlkfpjijaaDoorRY4
import Derived.Test.YtbpobnlkfpjijaaDoorRRows
import Derived.WalkKit
import Derived.ProofKit
import Derived.OpenShut
import Derived.ShutString
import Derived.ChangeOld
import Derived.Below
import Derived.SizedLaws
import Derived.Test.YtbpobnlkfpjijaaDoorRCards
import Derived.Test.YtbpobnlkfpjijaaDoorRTie
import Derived.LaidMore
import Derived.Stop.Joined
import Derived.SevenTiedAt
import Derived.Lib.LaidTab
-- Pr64
section
namespace Go.Proofs.YtbpobnlkfpjijaaDoorR.Pr
open Go.RowKit Go.Proofs.YtbpobnlkfpjijaaDoorRW.PrintWords Go.Proofs.YtbpobnlkfpjijaaDoorRW.PrintLast Go.Proofs.YtbpobnlkfpjijaaDoorRW.PrintMore
attribute [local go_sem] max2_int min2_int max_two min_two max_three min_three max_four min_four   -- for this text's walks alone
set_option linter.unusedVariables false
set_option linter.unusedSimpArgs false

attribute [local go_sem] Go.Proofs.Aid.cell_set_row
attribute [local go_sem high] eqA31
def tallystickref14_Of.f (a0 : ByteArray) (a1_0 : Int) (a1_1 : Int) (a1_2 : Int) : Option (Int × Int × List Int × List Int × List Int × Bool × Int) := (tallystickref14_Take.f a0).bind fun bt226 => (if bt226.2.2.2.2.2.2.2.2.2 = 0 then (if (!(bt226.1 == a1_0) || (!(bt226.2.1 == a1_1) || (!(bt226.2.2.1 == a1_2)))) = true then (some (0, 0, ([] : List Int), ([] : List Int), ([] : List Int), false, 11)) else (some (bt226.2.2.2.1, bt226.2.2.2.2.1, bt226.2.2.2.2.2.1, bt226.2.2.2.2.2.2.1, bt226.2.2.2.2.2.2.2.1, bt226.2.2.2.2.2.2.2.2.1, 0))) else (some (0, 0, ([] : List Int), ([] : List Int), ([] : List Int), false, bt226.2.2.2.2.2.2.2.2.2)))
set_option maxHeartbeats 8000000 in
set_option maxRecDepth 100000 in
theorem tallystickref14_Of.calls (a0 : ByteArray) (a1_0 : Int) (a1_1 : Int) (a1_2 : Int) (r1 : Int) (r2 : Int) (r3 : List Int) (r4 : List Int) (r5 : List Int) (r6 : Bool) (r7 : Int) (w : World) (h : tallystickref14_Of.f a0 a1_0 a1_1 a1_2 = some (r1, r2, r3, r4, r5, r6, r7)) :
  Calls Tryd.prog 18 #[.string a0, .agg #[.int .i64 a1_0, .int .i64 a1_1, .int .i64 a1_2]] w fun e w' => ∃ v2_ v3_ v4_ : Value, e = .returned (.tuple #[.agg #[.int .i64 r1, .int .i64 r2, v2_, v3_, v4_, .bool r6], .int .i64 r7]) ∧ Kd.V (Kd.int .u64) 79 w' w.heap.size (fun k_ => (w.heap.size ≤ k_)) v2_ r3 ∧ Kd.V (Kd.int .u64) 79 w' w.heap.size (fun k_ => (w.heap.size ≤ k_)) v3_ r4 ∧ Kd.V (Kd.int .u64) 79 w' w.heap.size (fun k_ => (w.heap.size ≤ k_)) v4_ r5 ∧ Below w.heap.size w w' := by
 have hu31 := Tryd.underlying31
 have hu45 := Tryd.underlying45
 have hu63 := Tryd.underlying63
 have HB := A_ (Below.refl w.heap.size w)
 have H : ((tallystickref14_Take.f a0).bind fun bt226 => (if bt226.2.2.2.2.2.2.2.2.2 = 0 then (if (!(bt226.1 == a1_0) || (!(bt226.2.1 == a1_1) || (!(bt226.2.2.1 == a1_2)))) = true then (some (0, 0, ([] : List Int), ([] : List Int), ([] : List Int), false, 11)) else (some (bt226.2.2.2.1, bt226.2.2.2.2.1, bt226.2.2.2.2.2.1, bt226.2.2.2.2.2.2.1, bt226.2.2.2.2.2.2.2.1, bt226.2.2.2.2.2.2.2.2.1, 0))) else (some (0, 0, ([] : List Int), ([] : List Int), ([] : List Int), false, bt226.2.2.2.2.2.2.2.2.2)))) = some (r1, r2, r3, r4, r5, r6, r7) := h
 clear h
 replace H := Option.bind_eq_some_iff.mp H
 obtain ⟨⟨t226, t227, t228, t229, t230, t231, t234, t237, t240, t241⟩, A30, H⟩ := H
 replace H : (if t241 = 0 then (if (!(t226 == a1_0) || (!(t227 == a1_1) || (!(t228 == a1_2)))) = true then (some (0, 0, ([] : List Int), ([] : List Int), ([] : List Int), false, 11)) else (some (t229, t230, t231, t234, t237, t240, 0))) else (some (0, 0, ([] : List Int), ([] : List Int), ([] : List Int), false, t241))) = some (r1, r2, r3, r4, r5, r6, r7) := H
 have A3 := A_ A30; clear A30
 by_cases c4 : t241 = 0
 ·rw [if_pos c4] at H
  have c4b0 : (t241 == 0) = true := beq_iff_eq.mpr c4
  have c4b1 : (t241 != 0) = false := bne_eq_false_iff_eq.mpr c4
  clear c4
  by_cases c5 : (!(t226 == a1_0) || (!(t227 == a1_1) || (!(t228 == a1_2)))) = true
  ·rw [if_pos c5] at H
   have c5b0 : (!(t226 == a1_0) || (!(t227 == a1_1) || (!(t228 == a1_2)))) = true := c5
   clear c5
   simp only [Option.some.injEq, Prod.mk.injEq] at H
   obtain ⟨rfl, rfl, rfl, rfl, rfl, rfl, rfl⟩ := H
   go_enter Tryd.func18, Tryd.ntmps18
   go_wp2_with (first | ((with_reducible refine gate_dst (N := 3) rfl ?_); refine box_event ?hg (N := 3) ?hd (cs := #[.int .i64 a1_0, .int .i64 a1_1, .int .i64 a1_2]) (t := 31) ?hr ?_; (case hd => rfl); (case hg => rfl); (case hr => first | (go_simp; done) | (go_simp; rfl)); intro gb224 hg w6 hbox hb; have BK224 := A_ hbox; have GW224 := A_ ((by rw [hg]; exact (below_size (hB_ w)) : w.heap.size ≤ gb224)); have GE224 := A_ ((by rw [hg]; exact (below_size (hB_ w)) : w.heap.size ≤ gb224)); replace HB := A_ (below_step (hB_ w) hb); clear hb hbox hg) | ((with_reducible refine gate_dst (N := 4) rfl ?_); refine box_event ?hg (N := 4) ?hd (cs := #[.int .i64 0, .int .i64 0, .slice none 0 0, .slice none 0 0, .slice none 0 0, .bool false]) (t := 45) ?hr ?_; (case hd => rfl); (case hg => rfl); (case hr => first | (go_simp; done) | (go_simp; rfl)); intro gb225 hg w7 hbox hb; have BK225 := A_ hbox; have GW225 := A_ ((by rw [hg]; exact (below_size (hB_ w)) : w.heap.size ≤ gb225)); have GE225 := A_ ((by rw [hg]; exact (below_size (hB_ w)) : w.heap.size ≤ gb225)); replace HB := A_ (below_step (hB_ w) hb); have NB224_225 := A_ ((by rw [hg]; exact Nat.ne_of_lt (blk_lt (g := gb224) (b_ BK224)) : gb224 ≠ gb225)); have NB225_224 := A_ ((by rw [hg]; exact Nat.ne_of_gt (blk_lt (g := gb224) (b_ BK224)) : gb225 ≠ gb224)); replace BK224 := A_ (blk_below (g := gb224) (b_ BK224) hb); clear hb hbox hg) | ((with_reducible refine gate_callee (f := 26) rfl ?_); refine goesL_ (some 10) rfl rfl Tryd.func26 (by kernel_rfl) rfl #[.string a0] rfl (by (try simp only [List.map_toArray, List.map_cons, List.map_nil]); first | done | rfl | (simp only [List.length_drop, List.length_take]; rfl)) ?_; (with_reducible refine (tallystickref14_Take.calls a0 t226 t227 t228 t229 t230 t231 t234 t237 t240 t241 _ A3.out).mono ?_); rintro e w8 ⟨v232, v235, v238, rfl, ho0, ho1, ho2, hb⟩; refine ⟨_, rfl, ?_⟩; have HO233 := A_ (Kd.V_lower (Kd.V_mono (ok' := fun k_ => (w.heap.size ≤ k_) ∧ k_ ≠ gb224 ∧ k_ ≠ gb225) ho0 (fun k_ hk_ => ⟨(Nat.le_trans (below_size (hB_ w)) hk_), (Kd.freshB (g := gb224) (b_ BK224) k_ hk_), (Kd.freshB (g := gb225) (b_ BK225) k_ hk_)⟩)) (below_size (hB_ w))); have HO236 := A_ (Kd.V_lower (Kd.V_mono (ok' := fun k_ => (w.heap.size ≤ k_) ∧ k_ ≠ gb224 ∧ k_ ≠ gb225) ho1 (fun k_ hk_ => ⟨(Nat.le_trans (below_size (hB_ w)) hk_), (Kd.freshB (g := gb224) (b_ BK224) k_ hk_), (Kd.freshB (g := gb225) (b_ BK225) k_ hk_)⟩)) (below_size (hB_ w))); have HO239 := A_ (Kd.V_lower (Kd.V_mono (ok' := fun k_ => (w.heap.size ≤ k_) ∧ k_ ≠ gb224 ∧ k_ ≠ gb225) ho2 (fun k_ hk_ => ⟨(Nat.le_trans (below_size (hB_ w)) hk_), (Kd.freshB (g := gb224) (b_ BK224) k_ hk_), (Kd.freshB (g := gb225) (b_ BK225) k_ hk_)⟩)) (below_size (hB_ w))); replace BK224 := A_ (blk_below (g := gb224) (b_ BK224) hb); replace BK225 := A_ (blk_below (g := gb225) (b_ BK225) hb); replace HB := A_ (below_step (hB_ w) hb); (try clear hb); (try clear hb2); (try clear hk); (try clear hi); (try clear ho0); (try clear ho1); (try clear ho2)) | ((with_reducible refine gate_dst (N := 6) rfl ?_); refine box_event ?hg (N := 6) ?hd (cs := #[.int .i64 0, .int .i64 0, .int .i64 0, .int .i64 0, .int .i64 0, .slice none 0 0, .slice none 0 0, .slice none 0 0, .bool false]) (t := 63) ?hr ?_; (case hd => rfl); (case hg => rfl); (case hr => first | (go_simp; done) | (go_simp; rfl)); intro gb242 hg w9 hbox hb; replace HO233 := A_ (Kd.V_below (Kd.V_elderB (v_ HO233) gb242 (Nat.le_of_eq hg.symm)) hb); replace HO236 := A_ (Kd.V_below (Kd.V_elderB (v_ HO236) gb242 (Nat.le_of_eq hg.symm)) hb); replace HO239 := A_ (Kd.V_below (Kd.V_elderB (v_ HO239) gb242 (Nat.le_of_eq hg.symm)) hb); have BK242 := A_ hbox; have GW242 := A_ ((by rw [hg]; exact (below_size (hB_ w)) : w.heap.size ≤ gb242)); have GE242 := A_ ((by rw [hg]; exact (below_size (hB_ w)) : w.heap.size ≤ gb242)); replace HB := A_ (below_step (hB_ w) hb); have NB224_242 := A_ ((by rw [hg]; exact Nat.ne_of_lt (blk_lt (g := gb224) (b_ BK224)) : gb224 ≠ gb242)); have NB242_224 := A_ ((by rw [hg]; exact Nat.ne_of_gt (blk_lt (g := gb224) (b_ BK224)) : gb242 ≠ gb224)); replace BK224 := A_ (blk_below (g := gb224) (b_ BK224) hb); have NB225_242 := A_ ((by rw [hg]; exact Nat.ne_of_lt (blk_lt (g := gb225) (b_ BK225)) : gb225 ≠ gb242)); have NB242_225 := A_ ((by rw [hg]; exact Nat.ne_of_gt (blk_lt (g := gb225) (b_ BK225)) : gb242 ≠ gb225)); replace BK225 := A_ (blk_below (g := gb225) (b_ BK225) hb); clear hb hbox hg; have hnb10 := NB242_224.out; have hnc10 := NB224_242.out; have hnb11 := NB242_225.out; have hnc11 := NB225_242.out; obtain ⟨hcz12_0, hcz12_1, hcz12_2, hcz12_3, hcz12_4, hcz12_5, hcz12_6, hcz12_7, hcz12_8, hfz12_0, hfz12_1, hfz12_2, hfz12_3, hfz12_4, hfz12_5, hfz12_6, hfz12_7, hfz12_8⟩ := cf9_ BK242; obtain ⟨Ao13, co13, eo13⟩ := Kd.V_slice HO233.out; subst eo13; obtain ⟨Ao14, co14, eo14⟩ := Kd.V_slice HO236.out; subst eo14; obtain ⟨Ao15, co15, eo15⟩ := Kd.V_slice HO239.out; subst eo15; have hnb16 := NB224_225.out; have hnc16 := NB225_224.out; obtain ⟨hcz17_0, hcz17_1, hcz17_2, hfz17_0, hfz17_1, hfz17_2⟩ := cf3_ BK224; obtain ⟨hcz18_0, hcz18_1, hcz18_2, hcz18_3, hcz18_4, hcz18_5, hfz18_0, hfz18_1, hfz18_2, hfz18_3, hfz18_4, hfz18_5⟩ := cf6_ BK225))
   refine bodyPost_ret (results_ct rfl _ _ gb225 45 #[.int .i64 0, .int .i64 0, .slice none 0 0, .slice none 0 0, .slice none 0 0, .bool false] (0, 0) _ rfl (by (with_reducible repeat (first|apply bA_|apply bN_|apply bD_)); refine blk_put (cs := #[.int .i64 0, .int .i64 0, .slice none 0 0, .slice none 0 0, .slice none 0 0, .bool false]) ?_ 5 _ rfl; (with_reducible repeat (first|apply bA_|apply bN_|apply bD_)); refine blk_put (cs := #[.int .i64 0, .int .i64 0, .slice none 0 0, .slice none 0 0, .slice none 0 0, .bool false]) ?_ 4 _ rfl; (with_reducible repeat (first|apply bA_|apply bN_|apply bD_)); refine blk_put (cs := #[.int .i64 0, .int .i64 0, .slice none 0 0, .slice none 0 0, .slice none 0 0, .bool false]) ?_ 3 _ rfl; (with_reducible repeat (first|apply bA_|apply bN_|apply bD_)); refine blk_put (cs := #[.int .i64 0, .int .i64 0, .slice none 0 0, .slice none 0 0, .slice none 0 0, .bool false]) ?_ 2 _ rfl; (with_reducible repeat (first|apply bA_|apply bN_|apply bD_)); refine blk_put (cs := #[.int .i64 0, .int .i64 0, .slice none 0 0, .slice none 0 0, .slice none 0 0, .bool false]) ?_ 1 _ rfl; (with_reducible repeat (first|apply bA_|apply bN_|apply bD_)); refine blk_put (cs := #[.int .i64 0, .int .i64 0, .slice none 0 0, .slice none 0 0, .slice none 0 0, .bool false]) ?_ 0 _ rfl; (with_reducible repeat (first|apply bA_|apply bN_|apply bD_)); refine blk_far ?_ NB225_242.out _; (with_reducible repeat (first|apply bA_|apply bN_|apply bD_)); refine blk_far ?_ NB225_242.out _; (with_reducible repeat (first|apply bA_|apply bN_|apply bD_)); refine blk_far ?_ NB225_242.out _; (with_reducible repeat (first|apply bA_|apply bN_|apply bD_)); refine blk_far ?_ NB225_242.out _; (with_reducible repeat (first|apply bA_|apply bN_|apply bD_)); refine blk_far ?_ NB225_242.out _; (with_reducible repeat (first|apply bA_|apply bN_|apply bD_)); refine blk_far ?_ NB225_242.out _; (with_reducible repeat (first|apply bA_|apply bN_|apply bD_)); refine blk_far ?_ NB225_242.out _; (with_reducible repeat (first|apply bA_|apply bN_|apply bD_)); refine blk_far ?_ NB225_242.out _; (with_reducible repeat (first|apply bA_|apply bN_|apply bD_)); refine blk_far ?_ NB225_242.out _; (with_reducible repeat (first|apply bA_|apply bN_|apply bD_)); exact BK225.out) Tryd.underlying45 rfl (by kernel_rfl)) rfl ?_
   exact ⟨_, _, _, by first | rfl | (simp [errW_none, errW_some] <;> rfl) | (simp [*, errW_none, errW_some] <;> rfl), by exact Kd.V_nil _ _ _ _ _, by exact Kd.V_nil _ _ _ _ _, by exact Kd.V_nil _ _ _ _ _, hB_ w⟩
  rw [if_neg c5] at H
  have c5b0 : (!(t226 == a1_0) || (!(t227 == a1_1) || (!(t228 == a1_2)))) = false := by simpa using c5
  clear c5
  simp only [Option.some.injEq, Prod.mk.injEq] at H
  obtain ⟨rfl, rfl, rfl, rfl, rfl, rfl, rfl⟩ := H
  go_enter Tryd.func18, Tryd.ntmps18
  go_wp2_with (first | ((with_reducible refine gate_dst (N := 3) rfl ?_); refine box_event ?hg (N := 3) ?hd (cs := #[.int .i64 a1_0, .int .i64 a1_1, .int .i64 a1_2]) (t := 31) ?hr ?_; (case hd => rfl); (case hg => rfl); (case hr => first | (go_simp; done) | (go_simp; rfl)); intro gb224 hg w19 hbox hb; have BK224 := A_ hbox; have GW224 := A_ ((by rw [hg]; exact (below_size (hB_ w)) : w.heap.size ≤ gb224)); have GE224 := A_ ((by rw [hg]; exact (below_size (hB_ w)) : w.heap.size ≤ gb224)); replace HB := A_ (below_step (hB_ w) hb); clear hb hbox hg) | ((with_reducible refine gate_dst (N := 4) rfl ?_); refine box_event ?hg (N := 4) ?hd (cs := #[.int .i64 0, .int .i64 0, .slice none 0 0, .slice none 0 0, .slice none 0 0, .bool false]) (t := 45) ?hr ?_; (case hd => rfl); (case hg => rfl); (case hr => first | (go_simp; done) | (go_simp; rfl)); intro gb225 hg w20 hbox hb; have BK225 := A_ hbox; have GW225 := A_ ((by rw [hg]; exact (below_size (hB_ w)) : w.heap.size ≤ gb225)); have GE225 := A_ ((by rw [hg]; exact (below_size (hB_ w)) : w.heap.size ≤ gb225)); replace HB := A_ (below_step (hB_ w) hb); have NB224_225 := A_ ((by rw [hg]; exact Nat.ne_of_lt (blk_lt (g := gb224) (b_ BK224)) : gb224 ≠ gb225)); have NB225_224 := A_ ((by rw [hg]; exact Nat.ne_of_gt (blk_lt (g := gb224) (b_ BK224)) : gb225 ≠ gb224)); replace BK224 := A_ (blk_below (g := gb224) (b_ BK224) hb); clear hb hbox hg) | ((with_reducible refine gate_callee (f := 26) rfl ?_); refine goesL_ (some 10) rfl rfl Tryd.func26 (by kernel_rfl) rfl #[.string a0] rfl (by (try simp only [List.map_toArray, List.map_cons, List.map_nil]); first | done | rfl | (simp only [List.length_drop, List.length_take]; rfl)) ?_; (with_reducible refine (tallystickref14_Take.calls a0 t226 t227 t228 t229 t230 t231 t234 t237 t240 t241 _ A3.out).mono ?_); rintro e w21 ⟨v232, v235, v238, rfl, ho0, ho1, ho2, hb⟩; refine ⟨_, rfl, ?_⟩; have HO233 := A_ (Kd.V_lower (Kd.V_mono (ok' := fun k_ => (w.heap.size ≤ k_) ∧ k_ ≠ gb224 ∧ k_ ≠ gb225) ho0 (fun k_ hk_ => ⟨(Nat.le_trans (below_size (hB_ w)) hk_), (Kd.freshB (g := gb224) (b_ BK224) k_ hk_), (Kd.freshB (g := gb225) (b_ BK225) k_ hk_)⟩)) (below_size (hB_ w))); have HO236 := A_ (Kd.V_lower (Kd.V_mono (ok' := fun k_ => (w.heap.size ≤ k_) ∧ k_ ≠ gb224 ∧ k_ ≠ gb225) ho1 (fun k_ hk_ => ⟨(Nat.le_trans (below_size (hB_ w)) hk_), (Kd.freshB (g := gb224) (b_ BK224) k_ hk_), (Kd.freshB (g := gb225) (b_ BK225) k_ hk_)⟩)) (below_size (hB_ w))); have HO239 := A_ (Kd.V_lower (Kd.V_mono (ok' := fun k_ => (w.heap.size ≤ k_) ∧ k_ ≠ gb224 ∧ k_ ≠ gb225) ho2 (fun k_ hk_ => ⟨(Nat.le_trans (below_size (hB_ w)) hk_), (Kd.freshB (g := gb224) (b_ BK224) k_ hk_), (Kd.freshB (g := gb225) (b_ BK225) k_ hk_)⟩)) (below_size (hB_ w))); replace BK224 := A_ (blk_below (g := gb224) (b_ BK224) hb); replace BK225 := A_ (blk_below (g := gb225) (b_ BK225) hb); replace HB := A_ (below_step (hB_ w) hb); (try clear hb); (try clear hb2); (try clear hk); (try clear hi); (try clear ho0); (try clear ho1); (try clear ho2)) | ((with_reducible refine gate_dst (N := 6) rfl ?_); refine box_event ?hg (N := 6) ?hd (cs := #[.int .i64 0, .int .i64 0, .int .i64 0, .int .i64 0, .int .i64 0, .slice none 0 0, .slice none 0 0, .slice none 0 0, .bool false]) (t := 63) ?hr ?_; (case hd => rfl); (case hg => rfl); (case hr => first | (go_simp; done) | (go_simp; rfl)); intro gb242 hg w22 hbox hb; replace HO233 := A_ (Kd.V_below (Kd.V_elderB (v_ HO233) gb242 (Nat.le_of_eq hg.symm)) hb); replace HO236 := A_ (Kd.V_below (Kd.V_elderB (v_ HO236) gb242 (Nat.le_of_eq hg.symm)) hb); replace HO239 := A_ (Kd.V_below (Kd.V_elderB (v_ HO239) gb242 (Nat.le_of_eq hg.symm)) hb); have BK242 := A_ hbox; have GW242 := A_ ((by rw [hg]; exact (below_size (hB_ w)) : w.heap.size ≤ gb242)); have GE242 := A_ ((by rw [hg]; exact (below_size (hB_ w)) : w.heap.size ≤ gb242)); replace HB := A_ (below_step (hB_ w) hb); have NB224_242 := A_ ((by rw [hg]; exact Nat.ne_of_lt (blk_lt (g := gb224) (b_ BK224)) : gb224 ≠ gb242)); have NB242_224 := A_ ((by rw [hg]; exact Nat.ne_of_gt (blk_lt (g := gb224) (b_ BK224)) : gb242 ≠ gb224)); replace BK224 := A_ (blk_below (g := gb224) (b_ BK224) hb); have NB225_242 := A_ ((by rw [hg]; exact Nat.ne_of_lt (blk_lt (g := gb225) (b_ BK225)) : gb225 ≠ gb242)); have NB242_225 := A_ ((by rw [hg]; exact Nat.ne_of_gt (blk_lt (g := gb225) (b_ BK225)) : gb242 ≠ gb225)); replace BK225 := A_ (blk_below (g := gb225) (b_ BK225) hb); clear hb hbox hg; have hnb23 := NB242_224.out; have hnc23 := NB224_242.out; have hnb24 := NB242_225.out; have hnc24 := NB225_242.out; obtain ⟨hcz25_0, hcz25_1, hcz25_2, hcz25_3, hcz25_4, hcz25_5, hcz25_6, hcz25_7, hcz25_8, hfz25_0, hfz25_1, hfz25_2, hfz25_3, hfz25_4, hfz25_5, hfz25_6, hfz25_7, hfz25_8⟩ := cf9_ BK242; obtain ⟨Ao26, co26, eo26⟩ := Kd.V_slice HO233.out; subst eo26; obtain ⟨Ao27, co27, eo27⟩ := Kd.V_slice HO236.out; subst eo27; obtain ⟨Ao28, co28, eo28⟩ := Kd.V_slice HO239.out; subst eo28; have hnb29 := NB224_225.out; have hnc29 := NB225_224.out; obtain ⟨hcz30_0, hcz30_1, hcz30_2, hfz30_0, hfz30_1, hfz30_2⟩ := cf3_ BK224; obtain ⟨hcz31_0, hcz31_1, hcz31_2, hcz31_3, hcz31_4, hcz31_5, hfz31_0, hfz31_1, hfz31_2, hfz31_3, hfz31_4, hfz31_5⟩ := cf6_ BK225))
  refine bodyPost_ret (results_ct rfl _ _ gb225 45 #[.int .i64 t229, .int .i64 t230, .slice Ao26 t231.length co26, .slice Ao27 t234.length co27, .slice Ao28 t237.length co28, .bool t240] (0, 0) _ rfl (by (with_reducible repeat (first|apply bA_|apply bN_|apply bD_)); refine blk_put (cs := #[.int .i64 t229, .int .i64 t230, .slice Ao26 t231.length co26, .slice Ao27 t234.length co27, .slice Ao28 t237.length co28, .bool false]) ?_ 5 _ rfl; (with_reducible repeat (first|apply bA_|apply bN_|apply bD_)); refine blk_put (cs := #[.int .i64 t229, .int .i64 t230, .slice Ao26 t231.length co26, .slice Ao27 t234.length co27, .slice none 0 0, .bool false]) ?_ 4 _ rfl; (with_reducible repeat (first|apply bA_|apply bN_|apply bD_)); refine blk_put (cs := #[.int .i64 t229, .int .i64 t230, .slice Ao26 t231.length co26, .slice none 0 0, .slice none 0 0, .bool false]) ?_ 3 _ rfl; (with_reducible repeat (first|apply bA_|apply bN_|apply bD_)); refine blk_put (cs := #[.int .i64 t229, .int .i64 t230, .slice none 0 0, .slice none 0 0, .slice none 0 0, .bool false]) ?_ 2 _ rfl; (with_reducible repeat (first|apply bA_|apply bN_|apply bD_)); refine blk_put (cs := #[.int .i64 t229, .int .i64 0, .slice none 0 0, .slice none 0 0, .slice none 0 0, .bool false]) ?_ 1 _ rfl; (with_reducible repeat (first|apply bA_|apply bN_|apply bD_)); refine blk_put (cs := #[.int .i64 0, .int .i64 0, .slice none 0 0, .slice none 0 0, .slice none 0 0, .bool false]) ?_ 0 _ rfl; (with_reducible repeat (first|apply bA_|apply bN_|apply bD_)); refine blk_far ?_ NB225_242.out _; (with_reducible repeat (first|apply bA_|apply bN_|apply bD_)); refine blk_far ?_ NB225_242.out _; (with_reducible repeat (first|apply bA_|apply bN_|apply bD_)); refine blk_far ?_ NB225_242.out _; (with_reducible repeat (first|apply bA_|apply bN_|apply bD_)); refine blk_far ?_ NB225_242.out _; (with_reducible repeat (first|apply bA_|apply bN_|apply bD_)); refine blk_far ?_ NB225_242.out _; (with_reducible repeat (first|apply bA_|apply bN_|apply bD_)); refine blk_far ?_ NB225_242.out _; (with_reducible repeat (first|apply bA_|apply bN_|apply bD_)); refine blk_far ?_ NB225_242.out _; (with_reducible repeat (first|apply bA_|apply bN_|apply bD_)); refine blk_far ?_ NB225_242.out _; (with_reducible repeat (first|apply bA_|apply bN_|apply bD_)); refine blk_far ?_ NB225_242.out _; (with_reducible repeat (first|apply bA_|apply bN_|apply bD_)); exact BK225.out) Tryd.underlying45 rfl (by kernel_rfl)) rfl ?_
  exact ⟨_, _, _, by first | rfl | (simp [errW_none, errW_some] <;> rfl) | (simp [*, errW_none, errW_some] <;> rfl), by (with_reducible repeat (first|apply vA_|apply vN_|apply vD_)); exact Kd.V_mono (Kd.V_far (p := ⟨gb225, 5, none⟩) (Kd.V_far (p := ⟨gb225, 4, none⟩) (Kd.V_far (p := ⟨gb225, 3, none⟩) (Kd.V_far (p := ⟨gb225, 2, none⟩) (Kd.V_far (p := ⟨gb225, 1, none⟩) (Kd.V_far (p := ⟨gb225, 0, none⟩) (Kd.V_far (p := ⟨gb242, 8, none⟩) (Kd.V_far (p := ⟨gb242, 7, none⟩) (Kd.V_far (p := ⟨gb242, 6, none⟩) (Kd.V_far (p := ⟨gb242, 5, none⟩) (Kd.V_far (p := ⟨gb242, 4, none⟩) (Kd.V_far (p := ⟨gb242, 3, none⟩) (Kd.V_far (p := ⟨gb242, 2, none⟩) (Kd.V_far (p := ⟨gb242, 1, none⟩) (Kd.V_far (p := ⟨gb242, 0, none⟩) (Kd.V_mono (Kd.V_mono HO233.out (fun k_ hk => (⟨hk, hk.2⟩ : _ ∧ k_ ≠ gb242))) (fun k_ hk => (⟨hk, hk.1.1.2.2⟩ : _ ∧ k_ ≠ gb225))) (fun _ hk => hk.1.2) (.int .i64 t226)) (fun _ hk => hk.1.2) (.int .i64 t227)) (fun _ hk => hk.1.2) (.int .i64 t228)) (fun _ hk => hk.1.2) (.int .i64 t229)) (fun _ hk => hk.1.2) (.int .i64 t230)) (fun _ hk => hk.1.2) (.slice Ao26 t231.length co26)) (fun _ hk => hk.1.2) (.slice Ao27 t234.length co27)) (fun _ hk => hk.1.2) (.slice Ao28 t237.length co28)) (fun _ hk => hk.1.2) (.bool t240)) (fun _ hk => hk.2) (.int .i64 t229)) (fun _ hk => hk.2) (.int .i64 t230)) (fun _ hk => hk.2) (.slice Ao26 t231.length co26)) (fun _ hk => hk.2) (.slice Ao27 t234.length co27)) (fun _ hk => hk.2) (.slice Ao28 t237.length co28)) (fun _ hk => hk.2) (.bool t240)) (fun _ hk => hk.1.1.1.1), by (with_reducible repeat (first|apply vA_|apply vN_|apply vD_)); exact Kd.V_mono (Kd.V_far (p := ⟨gb225, 5, none⟩) (Kd.V_far (p := ⟨gb225, 4, none⟩) (Kd.V_far (p := ⟨gb225, 3, none⟩) (Kd.V_far (p := ⟨gb225, 2, none⟩) (Kd.V_far (p := ⟨gb225, 1, none⟩) (Kd.V_far (p := ⟨gb225, 0, none⟩) (Kd.V_far (p := ⟨gb242, 8, none⟩) (Kd.V_far (p := ⟨gb242, 7, none⟩) (Kd.V_far (p := ⟨gb242, 6, none⟩) (Kd.V_far (p := ⟨gb242, 5, none⟩) (Kd.V_far (p := ⟨gb242, 4, none⟩) (Kd.V_far (p := ⟨gb242, 3, none⟩) (Kd.V_far (p := ⟨gb242, 2, none⟩) (Kd.V_far (p := ⟨gb242, 1, none⟩) (Kd.V_far (p := ⟨gb242, 0, none⟩) (Kd.V_mono (Kd.V_mono HO236.out (fun k_ hk => (⟨hk, hk.2⟩ : _ ∧ k_ ≠ gb242))) (fun k_ hk => (⟨hk, hk.1.1.2.2⟩ : _ ∧ k_ ≠ gb225))) (fun _ hk => hk.1.2) (.int .i64 t226)) (fun _ hk => hk.1.2) (.int .i64 t227)) (fun _ hk => hk.1.2) (.int .i64 t228)) (fun _ hk => hk.1.2) (.int .i64 t229)) (fun _ hk => hk.1.2) (.int .i64 t230)) (fun _ hk => hk.1.2) (.slice Ao26 t231.length co26)) (fun _ hk => hk.1.2) (.slice Ao27 t234.length co27)) (fun _ hk => hk.1.2) (.slice Ao28 t237.length co28)) (fun _ hk => hk.1.2) (.bool t240)) (fun _ hk => hk.2) (.int .i64 t229)) (fun _ hk => hk.2) (.int .i64 t230)) (fun _ hk => hk.2) (.slice Ao26 t231.length co26)) (fun _ hk => hk.2) (.slice Ao27 t234.length co27)) (fun _ hk => hk.2) (.slice Ao28 t237.length co28)) (fun _ hk => hk.2) (.bool t240)) (fun _ hk => hk.1.1.1.1), by (with_reducible repeat (first|apply vA_|apply vN_|apply vD_)); exact Kd.V_mono (Kd.V_far (p := ⟨gb225, 5, none⟩) (Kd.V_far (p := ⟨gb225, 4, none⟩) (Kd.V_far (p := ⟨gb225, 3, none⟩) (Kd.V_far (p := ⟨gb225, 2, none⟩) (Kd.V_far (p := ⟨gb225, 1, none⟩) (Kd.V_far (p := ⟨gb225, 0, none⟩) (Kd.V_far (p := ⟨gb242, 8, none⟩) (Kd.V_far (p := ⟨gb242, 7, none⟩) (Kd.V_far (p := ⟨gb242, 6, none⟩) (Kd.V_far (p := ⟨gb242, 5, none⟩) (Kd.V_far (p := ⟨gb242, 4, none⟩) (Kd.V_far (p := ⟨gb242, 3, none⟩) (Kd.V_far (p := ⟨gb242, 2, none⟩) (Kd.V_far (p := ⟨gb242, 1, none⟩) (Kd.V_far (p := ⟨gb242, 0, none⟩) (Kd.V_mono (Kd.V_mono HO239.out (fun k_ hk => (⟨hk, hk.2⟩ : _ ∧ k_ ≠ gb242))) (fun k_ hk => (⟨hk, hk.1.1.2.2⟩ : _ ∧ k_ ≠ gb225))) (fun _ hk => hk.1.2) (.int .i64 t226)) (fun _ hk => hk.1.2) (.int .i64 t227)) (fun _ hk => hk.1.2) (.int .i64 t228)) (fun _ hk => hk.1.2) (.int .i64 t229)) (fun _ hk => hk.1.2) (.int .i64 t230)) (fun _ hk => hk.1.2) (.slice Ao26 t231.length co26)) (fun _ hk => hk.1.2) (.slice Ao27 t234.length co27)) (fun _ hk => hk.1.2) (.slice Ao28 t237.length co28)) (fun _ hk => hk.1.2) (.bool t240)) (fun _ hk => hk.2) (.int .i64 t229)) (fun _ hk => hk.2) (.int .i64 t230)) (fun _ hk => hk.2) (.slice Ao26 t231.length co26)) (fun _ hk => hk.2) (.slice Ao27 t234.length co27)) (fun _ hk => hk.2) (.slice Ao28 t237.length co28)) (fun _ hk => hk.2) (.bool t240)) (fun _ hk => hk.1.1.1.1), hB_ w⟩
 rw [if_neg c4] at H
 have c4b0 : (t241 == 0) = false := beq_eq_false_iff_ne.mpr c4
 have c4b1 : (t241 != 0) = true := bne_iff_ne.mpr c4
 simp only [Option.some.injEq, Prod.mk.injEq] at H
 obtain ⟨rfl, rfl, rfl, rfl, rfl, rfl, rfl⟩ := H
 go_enter Tryd.func18, Tryd.ntmps18
 go_wp2_with (first | ((with_reducible refine gate_dst (N := 3) rfl ?_); refine box_event ?hg (N := 3) ?hd (cs := #[.int .i64 a1_0, .int .i64 a1_1, .int .i64 a1_2]) (t := 31) ?hr ?_; (case hd => rfl); (case hg => rfl); (case hr => first | (go_simp; done) | (go_simp; rfl)); intro gb224 hg w32 hbox hb; have BK224 := A_ hbox; have GW224 := A_ ((by rw [hg]; exact (below_size (hB_ w)) : w.heap.size ≤ gb224)); have GE224 := A_ ((by rw [hg]; exact (below_size (hB_ w)) : w.heap.size ≤ gb224)); replace HB := A_ (below_step (hB_ w) hb); clear hb hbox hg) | ((with_reducible refine gate_dst (N := 4) rfl ?_); refine box_event ?hg (N := 4) ?hd (cs := #[.int .i64 0, .int .i64 0, .slice none 0 0, .slice none 0 0, .slice none 0 0, .bool false]) (t := 45) ?hr ?_; (case hd => rfl); (case hg => rfl); (case hr => first | (go_simp; done) | (go_simp; rfl)); intro gb225 hg w33 hbox hb; have BK225 := A_ hbox; have GW225 := A_ ((by rw [hg]; exact (below_size (hB_ w)) : w.heap.size ≤ gb225)); have GE225 := A_ ((by rw [hg]; exact (below_size (hB_ w)) : w.heap.size ≤ gb225)); replace HB := A_ (below_step (hB_ w) hb); have NB224_225 := A_ ((by rw [hg]; exact Nat.ne_of_lt (blk_lt (g := gb224) (b_ BK224)) : gb224 ≠ gb225)); have NB225_224 := A_ ((by rw [hg]; exact Nat.ne_of_gt (blk_lt (g := gb224) (b_ BK224)) : gb225 ≠ gb224)); replace BK224 := A_ (blk_below (g := gb224) (b_ BK224) hb); clear hb hbox hg) | ((with_reducible refine gate_callee (f := 26) rfl ?_); refine goesL_ (some 10) rfl rfl Tryd.func26 (by kernel_rfl) rfl #[.string a0] rfl (by (try simp only [List.map_toArray, List.map_cons, List.map_nil]); first | done | rfl | (simp only [List.length_drop, List.length_take]; rfl)) ?_; (with_reducible refine (tallystickref14_Take.calls a0 t226 t227 t228 t229 t230 t231 t234 t237 t240 t241 _ A3.out).mono ?_); rintro e w34 ⟨v232, v235, v238, rfl, ho0, ho1, ho2, hb⟩; refine ⟨_, rfl, ?_⟩; have HO233 := A_ (Kd.V_lower (Kd.V_mono (ok' := fun k_ => (w.heap.size ≤ k_) ∧ k_ ≠ gb224 ∧ k_ ≠ gb225) ho0 (fun k_ hk_ => ⟨(Nat.le_trans (below_size (hB_ w)) hk_), (Kd.freshB (g := gb224) (b_ BK224) k_ hk_), (Kd.freshB (g := gb225) (b_ BK225) k_ hk_)⟩)) (below_size (hB_ w))); have HO236 := A_ (Kd.V_lower (Kd.V_mono (ok' := fun k_ => (w.heap.size ≤ k_) ∧ k_ ≠ gb224 ∧ k_ ≠ gb225) ho1 (fun k_ hk_ => ⟨(Nat.le_trans (below_size (hB_ w)) hk_), (Kd.freshB (g := gb224) (b_ BK224) k_ hk_), (Kd.freshB (g := gb225) (b_ BK225) k_ hk_)⟩)) (below_size (hB_ w))); have HO239 := A_ (Kd.V_lower (Kd.V_mono (ok' := fun k_ => (w.heap.size ≤ k_) ∧ k_ ≠ gb224 ∧ k_ ≠ gb225) ho2 (fun k_ hk_ => ⟨(Nat.le_trans (below_size (hB_ w)) hk_), (Kd.freshB (g := gb224) (b_ BK224) k_ hk_), (Kd.freshB (g := gb225) (b_ BK225) k_ hk_)⟩)) (below_size (hB_ w))); replace BK224 := A_ (blk_below (g := gb224) (b_ BK224) hb); replace BK225 := A_ (blk_below (g := gb225) (b_ BK225) hb); replace HB := A_ (below_step (hB_ w) hb); (try clear hb); (try clear hb2); (try clear hk); (try clear hi); (try clear ho0); (try clear ho1); (try clear ho2)) | ((with_reducible refine gate_dst (N := 6) rfl ?_); refine box_event ?hg (N := 6) ?hd (cs := #[.int .i64 0, .int .i64 0, .int .i64 0, .int .i64 0, .int .i64 0, .slice none 0 0, .slice none 0 0, .slice none 0 0, .bool false]) (t := 63) ?hr ?_; (case hd => rfl); (case hg => rfl); (case hr => first | (go_simp; done) | (go_simp; rfl)); intro gb242 hg w35 hbox hb; replace HO233 := A_ (Kd.V_below (Kd.V_elderB (v_ HO233) gb242 (Nat.le_of_eq hg.symm)) hb); replace HO236 := A_ (Kd.V_below (Kd.V_elderB (v_ HO236) gb242 (Nat.le_of_eq hg.symm)) hb); replace HO239 := A_ (Kd.V_below (Kd.V_elderB (v_ HO239) gb242 (Nat.le_of_eq hg.symm)) hb); have BK242 := A_ hbox; have GW242 := A_ ((by rw [hg]; exact (below_size (hB_ w)) : w.heap.size ≤ gb242)); have GE242 := A_ ((by rw [hg]; exact (below_size (hB_ w)) : w.heap.size ≤ gb242)); replace HB := A_ (below_step (hB_ w) hb); have NB224_242 := A_ ((by rw [hg]; exact Nat.ne_of_lt (blk_lt (g := gb224) (b_ BK224)) : gb224 ≠ gb242)); have NB242_224 := A_ ((by rw [hg]; exact Nat.ne_of_gt (blk_lt (g := gb224) (b_ BK224)) : gb242 ≠ gb224)); replace BK224 := A_ (blk_below (g := gb224) (b_ BK224) hb); have NB225_242 := A_ ((by rw [hg]; exact Nat.ne_of_lt (blk_lt (g := gb225) (b_ BK225)) : gb225 ≠ gb242)); have NB242_225 := A_ ((by rw [hg]; exact Nat.ne_of_gt (blk_lt (g := gb225) (b_ BK225)) : gb242 ≠ gb225)); replace BK225 := A_ (blk_below (g := gb225) (b_ BK225) hb); clear hb hbox hg; have hnb36 := NB242_224.out; have hnc36 := NB224_242.out; have hnb37 := NB242_225.out; have hnc37 := NB225_242.out; obtain ⟨hcz38_0, hcz38_1, hcz38_2, hcz38_3, hcz38_4, hcz38_5, hcz38_6, hcz38_7, hcz38_8, hfz38_0, hfz38_1, hfz38_2, hfz38_3, hfz38_4, hfz38_5, hfz38_6, hfz38_7, hfz38_8⟩ := cf9_ BK242; obtain ⟨Ao39, co39, eo39⟩ := Kd.V_slice HO233.out; subst eo39; obtain ⟨Ao40, co40, eo40⟩ := Kd.V_slice HO236.out; subst eo40; obtain ⟨Ao41, co41, eo41⟩ := Kd.V_slice HO239.out; subst eo41; have hnb42 := NB225_224.out; have hnc42 := NB224_225.out; obtain ⟨hcz43_0, hcz43_1, hcz43_2, hcz43_3, hcz43_4, hcz43_5, hfz43_0, hfz43_1, hfz43_2, hfz43_3, hfz43_4, hfz43_5⟩ := cf6_ BK225))
 refine bodyPost_ret (results_ct rfl _ _ gb225 45 #[.int .i64 0, .int .i64 0, .slice none 0 0, .slice none 0 0, .slice none 0 0, .bool false] (0, 0) _ rfl (by (with_reducible repeat (first|apply bA_|apply bN_|apply bD_)); refine blk_put (cs := #[.int .i64 0, .int .i64 0, .slice none 0 0, .slice none 0 0, .slice none 0 0, .bool false]) ?_ 5 _ rfl; (with_reducible repeat (first|apply bA_|apply bN_|apply bD_)); refine blk_put (cs := #[.int .i64 0, .int .i64 0, .slice none 0 0, .slice none 0 0, .slice none 0 0, .bool false]) ?_ 4 _ rfl; (with_reducible repeat (first|apply bA_|apply bN_|apply bD_)); refine blk_put (cs := #[.int .i64 0, .int .i64 0, .slice none 0 0, .slice none 0 0, .slice none 0 0, .bool false]) ?_ 3 _ rfl; (with_reducible repeat (first|apply bA_|apply bN_|apply bD_)); refine blk_put (cs := #[.int .i64 0, .int .i64 0, .slice none 0 0, .slice none 0 0, .slice none 0 0, .bool false]) ?_ 2 _ rfl; (with_reducible repeat (first|apply bA_|apply bN_|apply bD_)); refine blk_put (cs := #[.int .i64 0, .int .i64 0, .slice none 0 0, .slice none 0 0, .slice none 0 0, .bool false]) ?_ 1 _ rfl; (with_reducible repeat (first|apply bA_|apply bN_|apply bD_)); refine blk_put (cs := #[.int .i64 0, .int .i64 0, .slice none 0 0, .slice none 0 0, .slice none 0 0, .bool false]) ?_ 0 _ rfl; (with_reducible repeat (first|apply bA_|apply bN_|apply bD_)); refine blk_far ?_ NB225_242.out _; (with_reducible repeat (first|apply bA_|apply bN_|apply bD_)); refine blk_far ?_ NB225_242.out _; (with_reducible repeat (first|apply bA_|apply bN_|apply bD_)); refine blk_far ?_ NB225_242.out _; (with_reducible repeat (first|apply bA_|apply bN_|apply bD_)); refine blk_far ?_ NB225_242.out _; (with_reducible repeat (first|apply bA_|apply bN_|apply bD_)); refine blk_far ?_ NB225_242.out _; (with_reducible repeat (first|apply bA_|apply bN_|apply bD_)); refine blk_far ?_ NB225_242.out _; (with_reducible repeat (first|apply bA_|apply bN_|apply bD_)); refine blk_far ?_ NB225_242.out _; (with_reducible repeat (first|apply bA_|apply bN_|apply bD_)); refine blk_far ?_ NB225_242.out _; (with_reducible repeat (first|apply bA_|apply bN_|apply bD_)); refine blk_far ?_ NB225_242.out _; (with_reducible repeat (first|apply bA_|apply bN_|apply bD_)); exact BK225.out) Tryd.underlying45 rfl (by kernel_rfl)) rfl ?_
 exact ⟨_, _, _, by first | rfl | (simp [errW_none, errW_some] <;> rfl) | (simp [*, errW_none, errW_some] <;> rfl), by exact Kd.V_nil _ _ _ _ _, by exact Kd.V_nil _ _ _ _ _, by exact Kd.V_nil _ _ _ _ _, hB_ w⟩

end Go.Proofs.YtbpobnlkfpjijaaDoorR.Pr
end
-- Pr65
section
namespace Go.Proofs.YtbpobnlkfpjijaaDoorR.Pr
open Go.RowKit Go.Proofs.YtbpobnlkfpjijaaDoorRW.PrintWords Go.Proofs.YtbpobnlkfpjijaaDoorRW.PrintLast Go.Proofs.YtbpobnlkfpjijaaDoorRW.PrintMore
attribute [local go_sem] max2_int min2_int max_two min_two max_three min_three max_four min_four   -- for this text's walks alone
set_option linter.unusedVariables false
set_option linter.unusedSimpArgs false

attribute [local go_sem] Go.Proofs.Aid.cell_set_row
def tallystickref16_figures.f : Nat → Int → Option (ByteArray)
  | 0, _ => none
  | k + 1, a0 => if a0 < 10 then (if a0 < 0 then (some (strOfNums (([48 + 0] : List Int)))) else (some (strOfNums (([(48 + ((a0) % 256)) % 256] : List Int))))) else ((tallystickref16_figures.f k (wrap64 (Int.tdiv a0 10))).bind fun t249 => ((some (([(48 + ((Int.tmod a0 10) % 256)) % 256] : List Int) : List Int)).bind fun y250 => (if t249.size + (strOfNums y250).size ≤ 9223372036854775807 then (some (t249 ++ (strOfNums y250))) else (none))))
theorem tallystickref16_figures.mono_l : ∀ k, (∀ y0, LeO (tallystickref16_figures.f k y0) (tallystickref16_figures.f (k + 1) y0))
  | 0 => fun _ r h => by simp [tallystickref16_figures.f] at h
  | k + 1 => by
    have ih0 := tallystickref16_figures.mono_l k
    · intro y0
      unfold tallystickref16_figures.f
      repeat' first
      | (with_reducible exact ih0 _)
      | (with_reducible exact LeO.refl _)
      | (with_reducible exact LeO.none _)
      | (with_reducible refine LeO.ite ?_ ?_)
      | (with_reducible refine LeO.bind ?_ (fun _ => ?_))
      | exact ih0 _
      | exact LeO.none _
      | refine LeO.ite ?_ ?_
      | refine LeO.bind ?_ (fun _ => ?_)
theorem tallystickref16_figures.mono : ∀ a0 k, LeO (tallystickref16_figures.f k a0) (tallystickref16_figures.f (k + 1) a0) := by
  intro a0 k
  have ih0 := tallystickref16_figures.mono_l k
  exact ih0 a0
def tallystickref16_figures.T5 : Bool × List (List Nat × List Nat) := (true, [([], []), ([0], [0]), ([1], [1]), ([], []), ([3], [3]), ([4], [4]), ([5], [5]), ([6], [6]), ([7], [7]), ([2, 8], [2, 8]), ([9, 2, 0, 1, 2, 3, 4, 5, 6, 7, 8, 9], [9])])
def tallystickref16_figures.B5 : List Nat := [0, 1, 3, 0, 8, 24, 56, 120, 248, 511, 1023]
theorem tallystickref16_figures.tab5 : rtab .any (opsOf Tryd.f27 5) = tallystickref16_figures.T5 := by kernel_rfl
theorem tallystickref16_figures.bits5 : waitsOk tallystickref16_figures.T5.2 tallystickref16_figures.B5 = true := by kernel_rfl
set_option maxHeartbeats 8000000 in
set_option maxRecDepth 100000 in
theorem tallystickref16_figures.calls (k : Nat) : ∀ (a0 : Int) (r : ByteArray) (w : World) (h : tallystickref16_figures.f k a0 = some r),
    Calls Tryd.prog 27 #[.int .i64 a0] w fun e w' => e = .returned (.string r) ∧ Below w.heap.size w w' := by
  induction k using Nat.strongRecOn with
  | _ k ih =>
  intro a0 r w h
  cases k with
  | zero => exact absurd h (by simp [tallystickref16_figures.f])
  | succ k =>
  simp only [tallystickref16_figures.f] at h
  have HB := Aside0.mk (Below.refl w.heap.size w)
  have H : (if a0 < 10 then (if a0 < 0 then (some (strOfNums (([48 + 0] : List Int)))) else (some (strOfNums (([(48 + ((a0) % 256)) % 256] : List Int))))) else ((tallystickref16_figures.f k (wrap64 (Int.tdiv a0 10))).bind fun t249 => ((some (([(48 + ((Int.tmod a0 10) % 256)) % 256] : List Int) : List Int)).bind fun y250 => (if t249.size + (strOfNums y250).size ≤ 9223372036854775807 then (some (t249 ++ (strOfNums y250))) else (none))))) = some r := h
  clear h
  by_cases c2 : a0 < 10
  · rw [if_pos c2] at H
    have c2b0 : decide (a0 < 10) = true := decide_eq_true c2
    clear c2
    by_cases c3 : a0 < 0
    · rw [if_pos c3] at H
      have c3b0 : decide (a0 < 0) = true := decide_eq_true c3
      clear c3
      obtain ⟨y243, hy243⟩ : ∃ y_ : List Int, y_ = (([48 + 0] : List Int)) := ⟨_, rfl⟩
      replace H : (some (strOfNums y243)) = some r := by first | (rw [hy243]; with_reducible exact H) | (have H2_ := (Option.bind_some _ _).symm.trans H; rw [hy243]; with_reducible exact H2_) | (have H2_ := (Option.bind_some _ _).symm.trans H; with_reducible exact H2_) | with_reducible exact H | (rw [hy243]; exact H) | exact H
      have Ny243 := Aside0.mk hy243
      clear hy243
      obtain rfl := Option.some.inj H
      go_enter Tryd.func27, Tryd.ntmps27
      go_wp2_with (first | ((with_reducible refine gate_dst (N := 10) rfl ?_); refine Kd.R_lit (Kd.int .u8) _ 5 ?hg (N := 10) ?hd (xs := ([48 + 0] : List Int)) (inner := [.int .u8 (48 + 0)]) (ok := fun _ => True) (okp := fun _ => True) ?hr ?hp (fun _ hk => hk) trivial (Below.refl _ _) (Nat.le_refl _) (by simp) ?_; (case hd => rfl); (case hg => rfl); (case hr => first | (go_simp; done) | (go_simp; rfl)); (case hp => exact (Reps.one (show Kd.M (Kd.int .u8) _ _ _ (48 + 0) [.int .u8 (48 + 0)] from rfl) (Reps.none _ _))); intro v244 w4 ho5 hb hg_ hnew_; clear hg_ hnew_; (first | rw [← Ny243.out] at ho5 | (simp only [Int.reduceToNat] at ho5; rw [← Ny243.out] at ho5)); have n0_ := Aside0.mk (Kd.R_lower ho5 (below_size (by repeat (first | (with_reducible first | exact HB.out | apply below_alloc | apply pw_below_drewN | apply below_drew1) | exact HB.out)))); have n1_ := Aside0.mk (below_step (by repeat (first | (with_reducible first | exact HB.out | apply below_alloc | apply pw_below_drewN | apply below_drew1) | exact HB.out)) hb); clear HB; have HO245 := n0_; have HB := n1_; clear n0_ n1_; clear hb ho5; have hcv6 := own_string (P := Tryd.prog) Tryd.underlying69 Tryd.underlying5 Tryd.underlying9 (Kd.own_of_R HO245.out)))
      go_ret
      exact ⟨by first | rfl | (simp [errW_none, errW_some] <;> rfl) | (simp [*, errW_none, errW_some] <;> rfl), by repeat (first | (with_reducible first | exact HB.out | apply below_alloc | apply pw_below_drewN | apply below_drew1) | exact HB.out)⟩
    · rw [if_neg c3] at H
      have c3b0 : decide (a0 < 0) = false := decide_eq_false c3
      clear c3
      obtain ⟨y246, hy246⟩ : ∃ y_ : List Int, y_ = (([(48 + ((a0) % 256)) % 256] : List Int)) := ⟨_, rfl⟩
      replace H : (some (strOfNums y246)) = some r := by first | (rw [hy246]; with_reducible exact H) | (have H2_ := (Option.bind_some _ _).symm.trans H; rw [hy246]; with_reducible exact H2_) | (have H2_ := (Option.bind_some _ _).symm.trans H; with_reducible exact H2_) | with_reducible exact H | (rw [hy246]; exact H) | exact H
      have Ny246 := Aside0.mk hy246
      clear hy246
      obtain rfl := Option.some.inj H
      go_enter Tryd.func27, Tryd.ntmps27
      go_wp2_with (first | ((with_reducible refine gate_dst (N := 10) rfl ?_); refine Kd.R_lit (Kd.int .u8) _ 5 ?hg (N := 10) ?hd (xs := ([(48 + ((a0) % 256)) % 256] : List Int)) (inner := [.int .u8 ((48 + ((a0) % 256)) % 256)]) (ok := fun _ => True) (okp := fun _ => True) ?hr ?hp (fun _ hk => hk) trivial (Below.refl _ _) (Nat.le_refl _) (by simp) ?_; (case hd => rfl); (case hg => rfl); (case hr => first | (go_simp; done) | (go_simp; rfl)); (case hp => exact (Reps.one (show Kd.M (Kd.int .u8) _ _ _ ((48 + ((a0) % 256)) % 256) [.int .u8 ((48 + ((a0) % 256)) % 256)] from rfl) (Reps.none _ _))); intro v247 w7 ho8 hb hg_ hnew_; clear hg_ hnew_; (first | rw [← Ny246.out] at ho8 | (simp only [Int.reduceToNat] at ho8; rw [← Ny246.out] at ho8)); have n0_ := Aside0.mk (Kd.R_lower ho8 (below_size (by repeat (first | (with_reducible first | exact HB.out | apply below_alloc | apply pw_below_drewN | apply below_drew1) | exact HB.out)))); have n1_ := Aside0.mk (below_step (by repeat (first | (with_reducible first | exact HB.out | apply below_alloc | apply pw_below_drewN | apply below_drew1) | exact HB.out)) hb); clear HB; have HO248 := n0_; have HB := n1_; clear n0_ n1_; clear hb ho8; have hcv9 := own_string (P := Tryd.prog) Tryd.underlying69 Tryd.underlying5 Tryd.underlying9 (Kd.own_of_R HO248.out)))
      go_ret
      exact ⟨by first | rfl | (simp [errW_none, errW_some] <;> rfl) | (simp [*, errW_none, errW_some] <;> rfl), by repeat (first | (with_reducible first | exact HB.out | apply below_alloc | apply pw_below_drewN | apply below_drew1) | exact HB.out)⟩
  · rw [if_neg c2] at H
    have c2b0 : decide (a0 < 10) = false := decide_eq_false c2
    clear c2
    replace H := Option.bind_eq_some_iff.mp H
    obtain ⟨t249, A100, H⟩ := H
    replace H : ((some (([(48 + ((Int.tmod a0 10) % 256)) % 256] : List Int) : List Int)).bind fun y250 => (if t249.size + (strOfNums y250).size ≤ 9223372036854775807 then (some (t249 ++ (strOfNums y250))) else (none))) = some r := H
    have A10 := Aside0.mk A100
    clear A100
    obtain ⟨y250, hy250⟩ : ∃ y_ : List Int, y_ = (([(48 + ((Int.tmod a0 10) % 256)) % 256] : List Int)) := ⟨_, rfl⟩
    replace H : (if t249.size + (strOfNums y250).size ≤ 9223372036854775807 then (some (t249 ++ (strOfNums y250))) else (none)) = some r := by first | (rw [hy250]; with_reducible exact H) | (have H2_ := (Option.bind_some _ _).symm.trans H; rw [hy250]; with_reducible exact H2_) | (have H2_ := (Option.bind_some _ _).symm.trans H; with_reducible exact H2_) | with_reducible exact H | (rw [hy250]; exact H) | exact H
    have Ny250 := Aside0.mk hy250
    clear hy250
    by_cases c11 : t249.size + (strOfNums y250).size ≤ 9223372036854775807
    · rw [if_pos c11] at H
      have c11b0 := eq_true c11
      have c11b1 : decide (t249.size + (strOfNums y250).size ≤ 9223372036854775807) = true := decide_eq_true c11
      try have c11b2 : (9223372036854775807 < t249.size + (strOfNums y250).size) = False := eq_false (Nat.not_lt.2 c11)
      obtain rfl := Option.some.inj H
      go_enter Tryd.func27, Tryd.ntmps27
      try go_wp2
      have n0_ := Aside0.mk (below_drew1 HB.out)
      clear HB
      have HB := n0_
      clear n0_
      refine start_ (n := 11) (S := fun w' => True) (ds := []) #[false, false, false, false, false, false, false, false, false, false, false] (by kernel_rfl) rfl rfl trivial (fun hHeld => ?_); refine with_tabW tallystickref16_figures.tab5 tallystickref16_figures.bits5 (fun HT_ HW_ => ?_)
      generalize w.drew = w12 at HB hHeld ⊢
      refine pure_ (i := 0) (N := some 12) (v := ?_) (a' := ?_) #[true, false, false, false, false, false, false, false, false, false, false] rfl rfl (any_of HT_.out (by kernel_rfl)) (fun _ _ _ h => h) (Or.inl ⟨by rfl, ?_⟩) ?_ ?_
      rotate_left
      · intro w'
        go_simp
        with_reducible rfl
      rotate_left
      · simp only [Act.put, List.setIfInBounds_toArray, List.set_cons_zero, List.set_cons_succ, i64_w, i32_w]
        rfl
      refine pure_ (i := 1) (N := some 13) (v := ?_) (a' := ?_) #[true, true, false, false, false, false, false, false, false, false, false] rfl rfl (any_of HT_.out (by kernel_rfl)) (fun _ _ _ h => h) (Or.inl ⟨by rfl, ?_⟩) ?_ ?_
      rotate_left
      · intro w'
        go_simp
        with_reducible rfl
      rotate_left
      · simp only [Act.put, List.setIfInBounds_toArray, List.set_cons_zero, List.set_cons_succ, i64_w, i32_w]
        rfl
      refine pure_ (i := 3) (N := some 15) (v := ?_) (a' := ?_) #[true, true, false, true, false, false, false, false, false, false, false] rfl rfl (any_of HT_.out (by kernel_rfl)) (fun _ _ _ h => h) (Or.inl ⟨by rfl, ?_⟩) ?_ ?_
      rotate_left
      · intro w'
        go_simp
        with_reducible rfl
      rotate_left
      · simp only [Act.put, List.setIfInBounds_toArray, List.set_cons_zero, List.set_cons_succ, i64_w, i32_w]
        rfl
      refine pure_ (i := 4) (N := some 16) (v := ?_) (a' := ?_) #[true, true, false, true, true, false, false, false, false, false, false] rfl rfl (any_of HT_.out (by kernel_rfl)) (fun _ _ _ h => h) (Or.inl ⟨by rfl, ?_⟩) ?_ ?_
      rotate_left
      · intro w'
        go_simp
        with_reducible rfl
      rotate_left
      · simp only [Act.put, List.setIfInBounds_toArray, List.set_cons_zero, List.set_cons_succ, i64_w, i32_w]
        rfl
      refine pure_ (i := 5) (N := some 17) (v := ?_) (a' := ?_) #[true, true, false, true, true, true, false, false, false, false, false] rfl rfl (any_of HT_.out (by kernel_rfl)) (fun _ _ _ h => h) (Or.inl ⟨by rfl, ?_⟩) ?_ ?_
      rotate_left
      · intro w'
        go_simp
        with_reducible rfl
      rotate_left
      · simp only [Act.put, List.setIfInBounds_toArray, List.set_cons_zero, List.set_cons_succ, i64_w, i32_w]
        rfl
      refine pure_ (i := 6) (N := some 18) (v := ?_) (a' := ?_) #[true, true, false, true, true, true, true, false, false, false, false] rfl rfl (any_of HT_.out (by kernel_rfl)) (fun _ _ _ h => h) (Or.inl ⟨by rfl, ?_⟩) ?_ ?_
      rotate_left
      · intro w'
        go_simp
        with_reducible rfl
      rotate_left
      · simp only [Act.put, List.setIfInBounds_toArray, List.set_cons_zero, List.set_cons_succ, i64_w, i32_w]
        rfl
      refine join_ (σ := Value) 2 #[true, true, true, true, true, true, true, true, true, false, false] (fun s_ => [(14, .string t249), (19, s_), (20, .string (strOfNums y250))]) (fun s_ w' => (Kd.R (Kd.int .u8) 5 w' w.heap.size (fun _ => True) s_ y250) ∧ (Below w.heap.size w w')) ?_ ?_
      rotate_left
      · intro hCont
        refine two_ (i := 2) (j := 7) (Ni := some 14) (Nj := some 19) #[true, true, true, true, true, true, true, false, false, false, false] #[true, true, false, true, true, true, true, true, false, false, false] rfl rfl rfl rfl (two_of HT_.out (by kernel_rfl)) (by decide) (by decide) (fun K hK => ?_) (fun K hK => ?_)
        · skip
          refine goes_ Tryd.func27 (by kernel_rfl) rfl #[.int .i64 (wrap64 (Int.tdiv a0 10))] (by rfl) rfl rfl (by (try simp only [List.map_toArray, List.map_cons, List.map_nil]); first | done | rfl | (simp only [List.length_drop, List.length_take]; rfl)) ?_
          with_reducible refine (ih k (by omega) (wrap64 (Int.tdiv a0 10)) t249 _ A10.out).mono ?_
          rintro e w13 ⟨rfl, hb⟩
          refine ⟨_, rfl, ?_⟩
          have n0_ := Aside0.mk (below_step (by repeat (first | (with_reducible first | exact HB.out | apply below_alloc | apply pw_below_drewN | apply below_drew1) | exact HB.out)) hb)
          clear HB
          have HB := n0_
          clear n0_
          (try clear hb)
          (try clear hb2)
          (try clear hk)
          (try clear hi)
          refine hK.out _ _ trivial (fun hHeld => ?_)
          clear hK K
          refine norm_ (a' := ?_) ?_ ?_
          rotate_left
          · show Act.put _ (some 14) _ = _
            simp only [Act.put, List.setIfInBounds_toArray, List.set_cons_zero, List.set_cons_succ, i64_w, i32_w]
            rfl
          refine one_ (i := 7) (N := some 19) #[true, true, true, true, true, true, true, true, false, false, false] rfl rfl (one_of HT_.out (by kernel_rfl)) (by decide) (fun K hK => ?_)
          refine Kd.R_lit_step (Kd.int .u8) _ 5 ?hg (N := 19) ?hd (xs := ([(48 + ((Int.tmod a0 10) % 256)) % 256] : List Int)) (inner := [.int .u8 ((48 + ((Int.tmod a0 10) % 256)) % 256)]) (ok := fun _ => True) (okp := fun _ => True) ?hr ?hp (fun _ hk => hk) trivial (Below.refl _ _) (Nat.le_refl _) (by simp) ?_; (case hd => rfl); (case hg => rfl); (case hr => first | (go_simp; done) | (go_simp; rfl) | (go_simp; rw [show IntKind.u8.wrap (48 + IntKind.u8.wrap (Int.tmod a0 10)) = (48 + Int.tmod a0 10) % 256 from (by simp [IntKind.wrap, IntKind.bits, IntKind.signed]; try omega)])); (case hp => exact (Reps.one (show Kd.M (Kd.int .u8) _ _ _ ((48 + ((Int.tmod a0 10) % 256)) % 256) [.int .u8 ((48 + ((Int.tmod a0 10) % 256)) % 256)] from rfl) (Reps.none _ _)))
          intro v251 w14 ho15 hb hg_ hnew_
          clear hg_ hnew_
          (first | rw [← Ny250.out] at ho15 | (simp only [Int.reduceToNat] at ho15; rw [← Ny250.out] at ho15))
          have n0_ := Aside0.mk (Kd.R_lower ho15 (below_size (by repeat (first | (with_reducible first | exact HB.out | apply below_alloc | apply pw_below_drewN | apply below_drew1) | exact HB.out))))
          have n1_ := Aside0.mk (below_step (by repeat (first | (with_reducible first | exact HB.out | apply below_alloc | apply pw_below_drewN | apply below_drew1) | exact HB.out)) hb)
          clear HB
          have HO252 := n0_
          have HB := n1_
          clear n0_ n1_
          clear hb ho15
          refine hK.out _ _ trivial (fun hHeld => ?_)
          clear hK K
          refine norm_ (a' := ?_) ?_ ?_
          rotate_left
          · show Act.put _ (some 19) _ = _
            simp only [Act.put, List.setIfInBounds_toArray, List.set_cons_zero, List.set_cons_succ, i64_w, i32_w]
            rfl
          refine one_ (i := 8) (N := some 20) #[true, true, true, true, true, true, true, true, true, false, false] rfl rfl (one_of HT_.out (by kernel_rfl)) (by decide) (fun K hK => ?_)
          have hcv16 := own_string (P := Tryd.prog) Tryd.underlying69 Tryd.underlying5 Tryd.underlying9 (Kd.own_of_R HO252.out)
          refine value_ (w1 := ?_) (v := ?_) (by rfl) rfl ?_ ?_
          rotate_left 2
          · go_simp
            constructor
            · rfl
            · rfl
          clear hcv16
          refine hK.out _ _ trivial (fun hHeld => ?_)
          clear hK K
          refine norm_ (a' := ?_) ?_ ?_
          rotate_left
          · show Act.put _ (some 20) _ = _
            simp only [Act.put, List.setIfInBounds_toArray, List.set_cons_zero, List.set_cons_succ, i64_w, i32_w]
            rfl
          exact norm_ (by simp only [putAll, Act.put, List.setIfInBounds_toArray, List.set_cons_zero, List.set_cons_succ]) (hCont (v251) _ ⟨(by (with_reducible repeat (first | apply Kd.R_alloc | apply Kd.R_drewN | apply Kd.R_drew)); exact HO252.out), (by repeat (first | (with_reducible first | exact HB.out | apply below_alloc | apply pw_below_drewN | apply below_drew1) | exact HB.out))⟩)
        · skip
          refine Kd.R_lit_step (Kd.int .u8) _ 5 ?hg (N := 19) ?hd (xs := ([(48 + ((Int.tmod a0 10) % 256)) % 256] : List Int)) (inner := [.int .u8 ((48 + ((Int.tmod a0 10) % 256)) % 256)]) (ok := fun _ => True) (okp := fun _ => True) ?hr ?hp (fun _ hk => hk) trivial (Below.refl _ _) (Nat.le_refl _) (by simp) ?_; (case hd => rfl); (case hg => rfl); (case hr => first | (go_simp; done) | (go_simp; rfl) | (go_simp; rw [show IntKind.u8.wrap (48 + IntKind.u8.wrap (Int.tmod a0 10)) = (48 + Int.tmod a0 10) % 256 from (by simp [IntKind.wrap, IntKind.bits, IntKind.signed]; try omega)])); (case hp => exact (Reps.one (show Kd.M (Kd.int .u8) _ _ _ ((48 + ((Int.tmod a0 10) % 256)) % 256) [.int .u8 ((48 + ((Int.tmod a0 10) % 256)) % 256)] from rfl) (Reps.none _ _)))
          intro v251 w13 ho14 hb hg_ hnew_
          clear hg_ hnew_
          (first | rw [← Ny250.out] at ho14 | (simp only [Int.reduceToNat] at ho14; rw [← Ny250.out] at ho14))
          have n0_ := Aside0.mk (Kd.R_lower ho14 (below_size (by repeat (first | (with_reducible first | exact HB.out | apply below_alloc | apply pw_below_drewN | apply below_drew1) | exact HB.out))))
          have n1_ := Aside0.mk (below_step (by repeat (first | (with_reducible first | exact HB.out | apply below_alloc | apply pw_below_drewN | apply below_drew1) | exact HB.out)) hb)
          clear HB
          have HO252 := n0_
          have HB := n1_
          clear n0_ n1_
          clear hb ho14
          refine hK.out _ _ trivial (fun hHeld => ?_)
          clear hK K
          refine norm_ (a' := ?_) ?_ ?_
          rotate_left
          · show Act.put _ (some 19) _ = _
            simp only [Act.put, List.setIfInBounds_toArray, List.set_cons_zero, List.set_cons_succ, i64_w, i32_w]
            rfl
          refine two_ (i := 2) (j := 8) (Ni := some 14) (Nj := some 20) #[true, true, true, true, true, true, true, true, false, false, false] #[true, true, false, true, true, true, true, true, true, false, false] rfl rfl rfl rfl (two_of HT_.out (by kernel_rfl)) (by decide) (by decide) (fun K hK => ?_) (fun K hK => ?_)
          · skip
            refine goes_ Tryd.func27 (by kernel_rfl) rfl #[.int .i64 (wrap64 (Int.tdiv a0 10))] (by rfl) rfl rfl (by (try simp only [List.map_toArray, List.map_cons, List.map_nil]); first | done | rfl | (simp only [List.length_drop, List.length_take]; rfl)) ?_
            with_reducible refine (ih k (by omega) (wrap64 (Int.tdiv a0 10)) t249 _ A10.out).mono ?_
            rintro e w15 ⟨rfl, hb⟩
            refine ⟨_, rfl, ?_⟩
            have n0_ := Aside0.mk (Kd.R_below (by (with_reducible repeat (first | apply Kd.R_alloc | apply Kd.R_drewN | apply Kd.R_drew)); exact HO252.out) hb)
            have n1_ := Aside0.mk (below_step (by repeat (first | (with_reducible first | exact HB.out | apply below_alloc | apply pw_below_drewN | apply below_drew1) | exact HB.out)) hb)
            clear HO252
            clear HB
            have HO252 := n0_
            have HB := n1_
            clear n0_ n1_
            (try clear hb)
            (try clear hb2)
            (try clear hk)
            (try clear hi)
            refine hK.out _ _ trivial (fun hHeld => ?_)
            clear hK K
            refine norm_ (a' := ?_) ?_ ?_
            rotate_left
            · show Act.put _ (some 14) _ = _
              simp only [Act.put, List.setIfInBounds_toArray, List.set_cons_zero, List.set_cons_succ, i64_w, i32_w]
              rfl
            refine one_ (i := 8) (N := some 20) #[true, true, true, true, true, true, true, true, true, false, false] rfl rfl (one_of HT_.out (by kernel_rfl)) (by decide) (fun K hK => ?_)
            have hcv16 := own_string (P := Tryd.prog) Tryd.underlying69 Tryd.underlying5 Tryd.underlying9 (Kd.own_of_R HO252.out)
            refine value_ (w1 := ?_) (v := ?_) (by rfl) rfl ?_ ?_
            rotate_left 2
            · go_simp
              constructor
              · rfl
              · rfl
            clear hcv16
            refine hK.out _ _ trivial (fun hHeld => ?_)
            clear hK K
            refine norm_ (a' := ?_) ?_ ?_
            rotate_left
            · show Act.put _ (some 20) _ = _
              simp only [Act.put, List.setIfInBounds_toArray, List.set_cons_zero, List.set_cons_succ, i64_w, i32_w]
              rfl
            exact norm_ (by simp only [putAll, Act.put, List.setIfInBounds_toArray, List.set_cons_zero, List.set_cons_succ]) (hCont (v251) _ ⟨(by (with_reducible repeat (first | apply Kd.R_alloc | apply Kd.R_drewN | apply Kd.R_drew)); exact HO252.out), (by repeat (first | (with_reducible first | exact HB.out | apply below_alloc | apply pw_below_drewN | apply below_drew1) | exact HB.out))⟩)
          · skip
            have hcv15 := own_string (P := Tryd.prog) Tryd.underlying69 Tryd.underlying5 Tryd.underlying9 (Kd.own_of_R HO252.out)
            refine value_ (w1 := ?_) (v := ?_) (by rfl) rfl ?_ ?_
            rotate_left 2
            · go_simp
              constructor
              · rfl
              · rfl
            clear hcv15
            refine hK.out _ _ trivial (fun hHeld => ?_)
            clear hK K
            refine norm_ (a' := ?_) ?_ ?_
            rotate_left
            · show Act.put _ (some 20) _ = _
              simp only [Act.put, List.setIfInBounds_toArray, List.set_cons_zero, List.set_cons_succ, i64_w, i32_w]
              rfl
            refine one_ (i := 2) (N := some 14) #[true, true, true, true, true, true, true, true, true, false, false] rfl rfl (one_of HT_.out (by kernel_rfl)) (by decide) (fun K hK => ?_)
            refine goes_ Tryd.func27 (by kernel_rfl) rfl #[.int .i64 (wrap64 (Int.tdiv a0 10))] (by rfl) rfl rfl (by (try simp only [List.map_toArray, List.map_cons, List.map_nil]); first | done | rfl | (simp only [List.length_drop, List.length_take]; rfl)) ?_
            with_reducible refine (ih k (by omega) (wrap64 (Int.tdiv a0 10)) t249 _ A10.out).mono ?_
            rintro e w16 ⟨rfl, hb⟩
            refine ⟨_, rfl, ?_⟩
            have n0_ := Aside0.mk (Kd.R_below (by (with_reducible repeat (first | apply Kd.R_alloc | apply Kd.R_drewN | apply Kd.R_drew)); exact HO252.out) hb)
            have n1_ := Aside0.mk (below_step (by repeat (first | (with_reducible first | exact HB.out | apply below_alloc | apply pw_below_drewN | apply below_drew1) | exact HB.out)) hb)
            clear HO252
            clear HB
            have HO252 := n0_
            have HB := n1_
            clear n0_ n1_
            (try clear hb)
            (try clear hb2)
            (try clear hk)
            (try clear hi)
            refine hK.out _ _ trivial (fun hHeld => ?_)
            clear hK K
            refine norm_ (a' := ?_) ?_ ?_
            rotate_left
            · show Act.put _ (some 14) _ = _
              simp only [Act.put, List.setIfInBounds_toArray, List.set_cons_zero, List.set_cons_succ, i64_w, i32_w]
              rfl
            exact norm_ (by simp only [putAll, Act.put, List.setIfInBounds_toArray, List.set_cons_zero, List.set_cons_succ]) (hCont (v251) _ ⟨(by (with_reducible repeat (first | apply Kd.R_alloc | apply Kd.R_drewN | apply Kd.R_drew)); exact HO252.out), (by repeat (first | (with_reducible first | exact HB.out | apply below_alloc | apply pw_below_drewN | apply below_drew1) | exact HB.out))⟩)
      rintro v251 w17 ⟨h0_, h1_⟩
      have n0_ : Aside0 (Kd.R (Kd.int .u8) 5 w17 w.heap.size (fun _ => True) v251 y250) := ⟨h0_⟩
      have n1_ : Aside0 (Below w.heap.size w w17) := ⟨h1_⟩
      clear HB
      clear h0_ h1_
      have HO252 := n0_
      have HB := n1_
      clear n0_ n1_
      have hHeld := trivial
      refine norm_ (a' := ?_) ?_ ?_
      rotate_left
      · simp only [putAll, Act.put, List.setIfInBounds_toArray, List.set_cons_zero, List.set_cons_succ]
        rfl
      refine pure_ (i := 9) (N := some 21) (v := ?_) (a' := ?_) #[true, true, true, true, true, true, true, true, true, true, false] rfl rfl (any_of HT_.out (by kernel_rfl)) (fun _ _ _ h => h) (Or.inl ⟨by rfl, ?_⟩) ?_ ?_
      rotate_left
      · intro w'
        go_simp
        with_reducible rfl
      rotate_left
      · simp only [Act.put, List.setIfInBounds_toArray, List.set_cons_zero, List.set_cons_succ, i64_w, i32_w]
        rfl
      refine pure_ (i := 10) (N := some 2) (v := ?_) (a' := ?_) #[true, true, true, true, true, true, true, true, true, true, true] rfl rfl (any_of HT_.out (by kernel_rfl)) (fun _ _ _ h => h) (Or.inl ⟨by rfl, ?_⟩) ?_ ?_
      rotate_left
      · intro w'
        go_simp
        with_reducible rfl
      rotate_left
      · simp only [Act.put, List.setIfInBounds_toArray, List.set_cons_zero, List.set_cons_succ, i64_w, i32_w]
        rfl
      refine done_ (done_of HT_.out (by kernel_rfl)) ?_
      try go_wp2
      go_ret
      exact ⟨by first | rfl | (simp [errW_none, errW_some] <;> rfl) | (simp [*, errW_none, errW_some] <;> rfl), by repeat (first | (with_reducible first | exact HB.out | apply below_alloc | apply pw_below_drewN | apply below_drew1) | exact HB.out)⟩
    · rw [if_neg c11] at H
      exact absurd H (by simp)

end Go.Proofs.YtbpobnlkfpjijaaDoorR.Pr
end
-- Pr66
section
namespace Go.Proofs.YtbpobnlkfpjijaaDoorR.Pr
open Go.RowKit Go.Proofs.YtbpobnlkfpjijaaDoorRW.PrintWords Go.Proofs.YtbpobnlkfpjijaaDoorRW.PrintLast Go.Proofs.YtbpobnlkfpjijaaDoorRW.PrintMore
attribute [local go_sem] max2_int min2_int max_two min_two max_three min_three max_four min_four   -- for this text's walks alone
set_option linter.unusedVariables false
set_option linter.unusedSimpArgs false

attribute [local go_sem] Go.Proofs.Aid.cell_set_row
def tallystickref16_Name.f (k : Nat) (a0_0 : Int) (a0_1 : Int) : Option (ByteArray) := (tallystickref16_figures.f k a0_0).bind fun t254 => (if 1 + t254.size ≤ 9223372036854775807 then (if ((⟨#[99]⟩ : ByteArray) ++ t254).size + 1 ≤ 9223372036854775807 then ((tallystickref16_figures.f k a0_1).bind fun t255 => (if (((⟨#[99]⟩ : ByteArray) ++ t254) ++ (⟨#[45]⟩ : ByteArray)).size + t255.size ≤ 9223372036854775807 then (some ((((⟨#[99]⟩ : ByteArray) ++ t254) ++ (⟨#[45]⟩ : ByteArray)) ++ t255)) else (none))) else (none)) else (none))
theorem tallystickref16_Name.mono : ∀ a0 a1 k, LeO (tallystickref16_Name.f k a0 a1) (tallystickref16_Name.f (k + 1) a0 a1) := by
  intro a0 a1 k
  unfold tallystickref16_Name.f
  repeat' first
      | (with_reducible exact tallystickref16_figures.mono _ _)
      | (with_reducible exact LeO.refl _)
      | (with_reducible exact LeO.none _)
      | (with_reducible refine LeO.ite ?_ ?_)
      | (with_reducible refine LeO.bind ?_ (fun _ => ?_))
      | exact tallystickref16_figures.mono _ _
      | exact LeO.none _
      | refine LeO.ite ?_ ?_
      | refine LeO.bind ?_ (fun _ => ?_)
def tallystickref16_Name.T1 : Bool × List (List Nat × List Nat) := (true, [([], []), ([0], [0]), ([1], [1]), ([2], [2]), ([3], [3]), ([], []), ([5], [5]), ([6, 2], [6]), ([4, 7], [4, 7]), ([8, 7, 0, 1, 2, 3, 4, 5, 6, 7, 8], [8])])
def tallystickref16_Name.B1 : List Nat := [0, 1, 3, 7, 15, 0, 32, 103, 255, 511]
theorem tallystickref16_Name.tab1 : rtab .any (opsOf Tryd.f19 1) = tallystickref16_Name.T1 := by kernel_rfl
theorem tallystickref16_Name.bits1 : waitsOk tallystickref16_Name.T1.2 tallystickref16_Name.B1 = true := by kernel_rfl
set_option maxHeartbeats 8000000 in
set_option maxRecDepth 100000 in
theorem tallystickref16_Name.calls (k : Nat) (a0_0 : Int) (a0_1 : Int) (r : ByteArray) (w : World) (h : tallystickref16_Name.f k a0_0 a0_1 = some r) :
    Calls Tryd.prog 19 #[.agg #[.int .i64 a0_0, .int .i64 a0_1]] w fun e w' => e = .returned (.string r) ∧ Below w.heap.size w w' := by
  have hu23 := Tryd.underlying23
  have HB := Aside0.mk (Below.refl w.heap.size w)
  have H : ((tallystickref16_figures.f k a0_0).bind fun t254 => (if 1 + t254.size ≤ 9223372036854775807 then (if ((⟨#[99]⟩ : ByteArray) ++ t254).size + 1 ≤ 9223372036854775807 then ((tallystickref16_figures.f k a0_1).bind fun t255 => (if (((⟨#[99]⟩ : ByteArray) ++ t254) ++ (⟨#[45]⟩ : ByteArray)).size + t255.size ≤ 9223372036854775807 then (some ((((⟨#[99]⟩ : ByteArray) ++ t254) ++ (⟨#[45]⟩ : ByteArray)) ++ t255)) else (none))) else (none)) else (none))) = some r := h
  clear h
  replace H := Option.bind_eq_some_iff.mp H
  obtain ⟨t254, A20, H⟩ := H
  replace H : (if 1 + t254.size ≤ 9223372036854775807 then (if ((⟨#[99]⟩ : ByteArray) ++ t254).size + 1 ≤ 9223372036854775807 then ((tallystickref16_figures.f k a0_1).bind fun t255 => (if (((⟨#[99]⟩ : ByteArray) ++ t254) ++ (⟨#[45]⟩ : ByteArray)).size + t255.size ≤ 9223372036854775807 then (some ((((⟨#[99]⟩ : ByteArray) ++ t254) ++ (⟨#[45]⟩ : ByteArray)) ++ t255)) else (none))) else (none)) else (none)) = some r := H
  have A2 := Aside0.mk A20
  clear A20
  by_cases c3 : 1 + t254.size ≤ 9223372036854775807
  · rw [if_pos c3] at H
    have c3b0 := eq_true c3
    have c3b1 : decide (1 + t254.size ≤ 9223372036854775807) = true := decide_eq_true c3
    try have c3b2 : (9223372036854775807 < 1 + t254.size) = False := eq_false (Nat.not_lt.2 c3)
    by_cases c4 : ((⟨#[99]⟩ : ByteArray) ++ t254).size + 1 ≤ 9223372036854775807
    · rw [if_pos c4] at H
      have c4b0 := eq_true c4
      have c4b1 : decide (((⟨#[99]⟩ : ByteArray) ++ t254).size + 1 ≤ 9223372036854775807) = true := decide_eq_true c4
      try have c4b2 : (9223372036854775807 < ((⟨#[99]⟩ : ByteArray) ++ t254).size + 1) = False := eq_false (Nat.not_lt.2 c4)
      have c4b3 : (9223372036854775807 < 1 + t254.size + 1) = False := eq_false (Nat.not_lt.2 (by have h9 := c4; simp only [ByteArray.size_append, show (⟨#[99]⟩ : ByteArray).size = 1 from rfl, show (⟨#[45]⟩ : ByteArray).size = 1 from rfl] at h9; omega))
      replace H := Option.bind_eq_some_iff.mp H
      obtain ⟨t255, A50, H⟩ := H
      replace H : (if (((⟨#[99]⟩ : ByteArray) ++ t254) ++ (⟨#[45]⟩ : ByteArray)).size + t255.size ≤ 9223372036854775807 then (some ((((⟨#[99]⟩ : ByteArray) ++ t254) ++ (⟨#[45]⟩ : ByteArray)) ++ t255)) else (none)) = some r := H
      have A5 := Aside0.mk A50
      clear A50
      by_cases c6 : (((⟨#[99]⟩ : ByteArray) ++ t254) ++ (⟨#[45]⟩ : ByteArray)).size + t255.size ≤ 9223372036854775807
      · rw [if_pos c6] at H
        have c6b0 := eq_true c6
        have c6b1 : decide ((((⟨#[99]⟩ : ByteArray) ++ t254) ++ (⟨#[45]⟩ : ByteArray)).size + t255.size ≤ 9223372036854775807) = true := decide_eq_true c6
        try have c6b2 : (9223372036854775807 < (((⟨#[99]⟩ : ByteArray) ++ t254) ++ (⟨#[45]⟩ : ByteArray)).size + t255.size) = False := eq_false (Nat.not_lt.2 c6)
        have c6b3 : (9223372036854775807 < 1 + t254.size + 1 + t255.size) = False := eq_false (Nat.not_lt.2 (by have h9 := c6; simp only [ByteArray.size_append, show (⟨#[99]⟩ : ByteArray).size = 1 from rfl, show (⟨#[45]⟩ : ByteArray).size = 1 from rfl] at h9; omega))
        obtain rfl := Option.some.inj H
        go_enter Tryd.func19, Tryd.ntmps19
        try go_wp2_with (first | ((with_reducible refine gate_dst (N := 1) rfl ?_); refine box_event ?hg (N := 1) ?hd (cs := #[.int .i64 a0_0, .int .i64 a0_1]) (t := 23) ?hr ?_; (case hd => rfl); (case hg => rfl); (case hr => first | (go_simp; done) | (go_simp; rfl)); intro gb253 hg w7 hbox hb; have n0_ := Aside0.mk (below_step (by repeat (first | (with_reducible first | exact HB.out | apply below_alloc | apply pw_below_drewN | apply below_drew1) | exact HB.out)) hb); have n1_ := Aside0.mk (hbox); have n2_ := Aside0.mk ((by rw [hg]; exact (below_size (by repeat (first | (with_reducible first | exact HB.out | apply below_alloc | apply pw_below_drewN | apply below_drew1) | exact HB.out))) : w.heap.size ≤ gb253)); have n3_ := Aside0.mk ((by rw [hg]; exact (below_size (by repeat (first | (with_reducible first | exact HB.out | apply below_alloc | apply pw_below_drewN | apply below_drew1) | exact HB.out))) : w.heap.size ≤ gb253)); clear HB; have HB := n0_; have BK253 := n1_; have GW253 := n2_; have GE253 := n3_; clear n0_ n1_ n2_ n3_; clear hb hbox hg))
        have n0_ := Aside0.mk (blk_drew BK253.out)
        have n1_ := Aside0.mk (below_drew1 HB.out)
        clear BK253
        clear HB
        have BK253 := n0_
        have HB := n1_
        clear n0_ n1_
        refine start_ (n := 10) (S := fun w' => w'.cell? ⟨gb253, 0, none⟩ = some (.int .i64 a0_0) ∧ w'.cell? ⟨gb253, 1, none⟩ = some (.int .i64 a0_1)) (ds := []) #[false, false, false, false, false, false, false, false, false, false] (by kernel_rfl) rfl rfl ⟨(blk_cell BK253.out 0).trans rfl, (blk_cell BK253.out 1).trans rfl⟩ (fun hHeld => ?_); refine with_tabW tallystickref16_Name.tab1 tallystickref16_Name.bits1 (fun HT_ HW_ => ?_)
        generalize w7.drew = w8 at BK253 HB hHeld ⊢
        refine pure_ (i := 0) (N := some 3) (v := ?_) (a' := ?_) #[true, false, false, false, false, false, false, false, false, false] rfl rfl (any_of HT_.out (by kernel_rfl)) (fun _ _ _ h => h) (Or.inl ⟨by rfl, ?_⟩) ?_ ?_
        rotate_left
        · intro w'
          go_simp
          with_reducible rfl
        rotate_left
        · simp only [Act.put, List.setIfInBounds_toArray, List.set_cons_zero, List.set_cons_succ, i64_w, i32_w]
          rfl
        refine pure_ (i := 5) (N := some 8) (v := ?_) (a' := ?_) #[true, false, false, false, false, true, false, false, false, false] rfl rfl (any_of HT_.out (by kernel_rfl)) (fun _ _ _ h => h) (Or.inl ⟨by rfl, ?_⟩) ?_ ?_
        rotate_left
        · intro w'
          go_simp
          with_reducible rfl
        rotate_left
        · simp only [Act.put, List.setIfInBounds_toArray, List.set_cons_zero, List.set_cons_succ, i64_w, i32_w]
          rfl
        refine take_ (i := 1) (N := some 4) (v := ?_) (a' := ?_) #[true, true, false, false, false, true, false, false, false, false] rfl rfl (take_ofW HT_.out HW_.out (by kernel_rfl)) (fun _ _ _ h => h) (Or.inl ⟨by rfl, ?_⟩) hHeld ?_ ?_
        rotate_left
        · rintro w' ⟨s0, s1⟩
          go_simp
          with_reducible rfl
        rotate_left
        · simp only [Act.put, List.setIfInBounds_toArray, List.set_cons_zero, List.set_cons_succ, i64_w, i32_w]
          rfl
        refine take_ (i := 6) (N := some 9) (v := ?_) (a' := ?_) #[true, true, false, false, false, true, true, false, false, false] rfl rfl (take_ofW HT_.out HW_.out (by kernel_rfl)) (fun _ _ _ h => h) (Or.inl ⟨by rfl, ?_⟩) hHeld ?_ ?_
        rotate_left
        · rintro w' ⟨s0, s1⟩
          go_simp
          with_reducible rfl
        rotate_left
        · simp only [Act.put, List.setIfInBounds_toArray, List.set_cons_zero, List.set_cons_succ, i64_w, i32_w]
          rfl
        refine one_ (i := 2) (N := some 5) #[true, true, true, false, false, true, true, false, false, false] rfl rfl (one_of HT_.out (by kernel_rfl)) (by decide) (fun K hK => ?_)
        refine goes_ Tryd.func27 (by kernel_rfl) rfl #[.int .i64 a0_0] (by rfl) rfl rfl (by (try simp only [List.map_toArray, List.map_cons, List.map_nil]); first | done | rfl | (simp only [List.length_drop, List.length_take]; rfl)) ?_
        with_reducible refine (tallystickref16_figures.calls k a0_0 t254 _ A2.out).mono ?_
        rintro e w9 ⟨rfl, hb⟩
        refine ⟨_, rfl, ?_⟩
        have n0_ := Aside0.mk (blk_below (g := gb253) (o := .cells #[.int .i64 a0_0, .int .i64 a0_1] 23 (0, 0)) (by (with_reducible repeat (first | refine blk_drewN ?_ _ | refine blk_drew ?_ | refine blk_alloc ?_ _)); exact BK253.out) hb)
        have n1_ := Aside0.mk (below_step (by repeat (first | (with_reducible first | exact HB.out | apply below_alloc | apply pw_below_drewN | apply below_drew1 | refine below_set ?_ GE253.out) | exact HB.out)) hb)
        clear BK253
        clear HB
        have BK253 := n0_
        have HB := n1_
        clear n0_ n1_
        (try clear hb)
        (try clear hb2)
        (try clear hk)
        (try clear hi)
        refine hK.out _ _ ⟨(blk_cell BK253.out 0).trans rfl, (blk_cell BK253.out 1).trans rfl⟩ (fun hHeld => ?_)
        clear hK K
        refine norm_ (a' := ?_) ?_ ?_
        rotate_left
        · show Act.put _ (some 5) _ = _
          simp only [Act.put, List.setIfInBounds_toArray, List.set_cons_zero, List.set_cons_succ, i64_w, i32_w]
          rfl
        refine pure_ (i := 3) (N := some 6) (v := ?_) (a' := ?_) #[true, true, true, true, false, true, true, false, false, false] rfl rfl (any_of HT_.out (by kernel_rfl)) (fun _ _ _ h => h) (Or.inl ⟨by rfl, ?_⟩) ?_ ?_
        rotate_left
        · intro w'
          go_simp
          with_reducible rfl
        rotate_left
        · simp only [Act.put, List.setIfInBounds_toArray, List.set_cons_zero, List.set_cons_succ, i64_w, i32_w]
          rfl
        refine pure_ (i := 4) (N := some 7) (v := ?_) (a' := ?_) #[true, true, true, true, true, true, true, false, false, false] rfl rfl (any_of HT_.out (by kernel_rfl)) (fun _ _ _ h => h) (Or.inl ⟨by rfl, ?_⟩) ?_ ?_
        rotate_left
        · intro w'
          go_simp
          with_reducible rfl
        rotate_left
        · simp only [Act.put, List.setIfInBounds_toArray, List.set_cons_zero, List.set_cons_succ, i64_w, i32_w]
          rfl
        refine one_ (i := 7) (N := some 10) #[true, true, true, true, true, true, true, true, false, false] rfl rfl (one_of HT_.out (by kernel_rfl)) (by decide) (fun K hK => ?_)
        refine goes_ Tryd.func27 (by kernel_rfl) rfl #[.int .i64 a0_1] (by rfl) rfl rfl (by (try simp only [List.map_toArray, List.map_cons, List.map_nil]); first | done | rfl | (simp only [List.length_drop, List.length_take]; rfl)) ?_
        with_reducible refine (tallystickref16_figures.calls k a0_1 t255 _ A5.out).mono ?_
        rintro e w10 ⟨rfl, hb⟩
        refine ⟨_, rfl, ?_⟩
        have n0_ := Aside0.mk (blk_below (g := gb253) (o := .cells #[.int .i64 a0_0, .int .i64 a0_1] 23 (0, 0)) (by (with_reducible repeat (first | refine blk_drewN ?_ _ | refine blk_drew ?_ | refine blk_alloc ?_ _)); exact BK253.out) hb)
        have n1_ := Aside0.mk (below_step (by repeat (first | (with_reducible first | exact HB.out | apply below_alloc | apply pw_below_drewN | apply below_drew1 | refine below_set ?_ GE253.out) | exact HB.out)) hb)
        clear BK253
        clear HB
        have BK253 := n0_
        have HB := n1_
        clear n0_ n1_
        (try clear hb)
        (try clear hb2)
        (try clear hk)
        (try clear hi)
        refine hK.out _ _ ⟨(blk_cell BK253.out 0).trans rfl, (blk_cell BK253.out 1).trans rfl⟩ (fun hHeld => ?_)
        clear hK K
        refine norm_ (a' := ?_) ?_ ?_
        rotate_left
        · show Act.put _ (some 10) _ = _
          simp only [Act.put, List.setIfInBounds_toArray, List.set_cons_zero, List.set_cons_succ, i64_w, i32_w]
          rfl
        refine pure_ (i := 8) (N := some 11) (v := ?_) (a' := ?_) #[true, true, true, true, true, true, true, true, true, false] rfl rfl (any_of HT_.out (by kernel_rfl)) (fun _ _ _ h => h) (Or.inl ⟨by rfl, ?_⟩) ?_ ?_
        rotate_left
        · intro w'
          go_simp
          with_reducible rfl
        rotate_left
        · simp only [Act.put, List.setIfInBounds_toArray, List.set_cons_zero, List.set_cons_succ, i64_w, i32_w]
          rfl
        refine pure_ (i := 9) (N := some 2) (v := ?_) (a' := ?_) #[true, true, true, true, true, true, true, true, true, true] rfl rfl (any_of HT_.out (by kernel_rfl)) (fun _ _ _ h => h) (Or.inl ⟨by rfl, ?_⟩) ?_ ?_
        rotate_left
        · intro w'
          go_simp
          with_reducible rfl
        rotate_left
        · simp only [Act.put, List.setIfInBounds_toArray, List.set_cons_zero, List.set_cons_succ, i64_w, i32_w]
          rfl
        refine done_ (done_of HT_.out (by kernel_rfl)) ?_
        try go_wp2
        go_ret
        exact ⟨by first | rfl | (simp [errW_none, errW_some] <;> rfl) | (simp [*, errW_none, errW_some] <;> rfl), by repeat (first | (with_reducible first | exact HB.out | apply below_alloc | apply pw_below_drewN | apply below_drew1 | refine below_set ?_ GE253.out) | exact HB.out)⟩
      · rw [if_neg c6] at H
        exact absurd H (by simp)
    · rw [if_neg c4] at H
      exact absurd H (by simp)
  · rw [if_neg c3] at H
    exact absurd H (by simp)

end Go.Proofs.YtbpobnlkfpjijaaDoorR.Pr
end
-- Pr67
section
namespace Go.Proofs.YtbpobnlkfpjijaaDoorR.Pr
open Go.RowKit Go.Proofs.YtbpobnlkfpjijaaDoorRW.PrintWords Go.Proofs.YtbpobnlkfpjijaaDoorRW.PrintLast Go.Proofs.YtbpobnlkfpjijaaDoorRW.PrintMore
attribute [local go_sem] max2_int min2_int max_two min_two max_three min_three max_four min_four   -- for this text's walks alone
set_option linter.unusedVariables false
set_option linter.unusedSimpArgs false

attribute [local go_sem] Go.Proofs.Aid.cell_set_row
mutual
def tallystickref16_Find.l0 : Nat → List (S45) → Int → Int → List (S41) → Int → Int → Int → Option ((List (S45)))
 | 0, _, _, _, _, _, _, _ => none
 | k + 1, x5, x6, x257000, x257001, x258000, x258001, x258002 => if x6 < (x257001.length : Int) then (if 0 ≤ x6 then (if (((rd_T41 x257001 x6).f0).size : Int) < 1 then (tallystickref16_Find.j1 k x5 x6 true x257000 x257001 x258000 x258001 x258002 ((rd_T41 x257001 x6).f0) ((rd_T41 x257001 x6).f1) ((rd_T41 x257001 x6).f2)) else (if 0 < (((rd_T41 x257001 x6).f0).size : Int) then (tallystickref16_Find.j1 k x5 x6 ((bt ((rd_T41 x257001 x6).f0) 0) != 99) x257000 x257001 x258000 x258001 x258002 ((rd_T41 x257001 x6).f0) ((rd_T41 x257001 x6).f1) ((rd_T41 x257001 x6).f2)) else (none))) else (none)) else (some x5)
def tallystickref16_Find.j1 : Nat → List (S45) → Int → Bool → Int → List (S41) → Int → Int → Int → ByteArray → ByteArray → ByteArray → Option ((List (S45)))
 | 0, _, _, _, _, _, _, _, _, _, _, _ => none
 | k + 1, x5, x6, x31, x257000, x257001, x258000, x258001, x258002, x260000, x260001, x260002 => if x31 = true then (tallystickref16_Find.l0 k x5 (wrap64 (x6 + 1)) x257000 x257001 x258000 x258001 x258002) else ((tallystickref14_Of.f x260001 x258000 x258001 x258002).bind fun bt260 => (if bt260.2.2.2.2.2.2 = 0 then ((tallystickref16_Name.f k bt260.1 bt260.2.1).bind fun t274 => (if t274.toList = x260000.toList then (if x5.length < 1466015503701 then (tallystickref16_Find.l0 k (x5 ++ [(⟨(⟨bt260.1, bt260.2.1⟩ : S23), bt260.2.2.1, bt260.2.2.2.1, bt260.2.2.2.2.1, bt260.2.2.2.2.2.1⟩ : S45)]) (wrap64 (x6 + 1)) x257000 x257001 x258000 x258001 x258002) else (none)) else (tallystickref16_Find.l0 k x5 (wrap64 (x6 + 1)) x257000 x257001 x258000 x258001 x258002))) else (tallystickref16_Find.l0 k x5 (wrap64 (x6 + 1)) x257000 x257001 x258000 x258001 x258002)))
end
def tallystickref16_Find.f (k : Nat) (a0_0 : Int) (l0_1 : List (S41)) (a1_0 : Int) (a1_1 : Int) (a1_2 : Int) : Option ((List (S45))) := tallystickref16_Find.l0 k ([] : List (S45)) 0 a0_0 l0_1 a1_0 a1_1 a1_2
theorem tallystickref16_Find.mono_l : ∀ k, (∀ y0 y1 y2 y3 y4 y5 y6, LeO (tallystickref16_Find.l0 k y0 y1 y2 y3 y4 y5 y6) (tallystickref16_Find.l0 (k + 1) y0 y1 y2 y3 y4 y5 y6)) ∧ (∀ y0 y1 y2 y3 y4 y5 y6 y7 y8 y9 y10, LeO (tallystickref16_Find.j1 k y0 y1 y2 y3 y4 y5 y6 y7 y8 y9 y10) (tallystickref16_Find.j1 (k + 1) y0 y1 y2 y3 y4 y5 y6 y7 y8 y9 y10))
 | 0 => ⟨fun _ _ _ _ _ _ _ r h => by simp [tallystickref16_Find.l0] at h, fun _ _ _ _ _ _ _ _ _ _ _ r h => by simp [tallystickref16_Find.j1] at h⟩
 | k + 1 => by
  obtain ⟨ih0, ih1⟩ := tallystickref16_Find.mono_l k
  refine ⟨?_, ?_⟩
  ·intro y0 y1 y2 y3 y4 y5 y6
   unfold tallystickref16_Find.l0
   repeat' first
   | (with_reducible exact ih0 _ _ _ _ _ _ _)
   | (with_reducible exact ih1 _ _ _ _ _ _ _ _ _ _ _)
   | (with_reducible exact tallystickref16_Name.mono _ _ _)
   | (with_reducible exact LeO.refl _)
   | (with_reducible exact LeO.none _)
   | (with_reducible refine LeO.ite ?_ ?_)
   | (with_reducible refine LeO.bind ?_ (fun _ => ?_))
   | exact ih0 _ _ _ _ _ _ _
   | exact ih1 _ _ _ _ _ _ _ _ _ _ _
   | exact tallystickref16_Name.mono _ _ _
   | exact LeO.none _
   | refine LeO.ite ?_ ?_
   | refine LeO.bind ?_ (fun _ => ?_)
  intro y0 y1 y2 y3 y4 y5 y6 y7 y8 y9 y10
  unfold tallystickref16_Find.j1
  repeat' first
  | (with_reducible exact ih0 _ _ _ _ _ _ _)
  | (with_reducible exact ih1 _ _ _ _ _ _ _ _ _ _ _)
  | (with_reducible exact tallystickref16_Name.mono _ _ _)
  | (with_reducible exact LeO.refl _)
  | (with_reducible exact LeO.none _)
  | (with_reducible refine LeO.ite ?_ ?_)
  | (with_reducible refine LeO.bind ?_ (fun _ => ?_))
  | exact ih0 _ _ _ _ _ _ _
  | exact ih1 _ _ _ _ _ _ _ _ _ _ _
  | exact tallystickref16_Name.mono _ _ _
  | exact LeO.none _
  | refine LeO.ite ?_ ?_
  | refine LeO.bind ?_ (fun _ => ?_)
theorem tallystickref16_Find.mono : ∀ a0 a1 a2 a3 a4 k, LeO (tallystickref16_Find.f k a0 a1 a2 a3 a4) (tallystickref16_Find.f (k + 1) a0 a1 a2 a3 a4) := by
 intro a0 a1 a2 a3 a4 k
 obtain ⟨ih0, ih1⟩ := tallystickref16_Find.mono_l k
 unfold tallystickref16_Find.f
 repeat' first
   | (with_reducible exact ih0 _ _ _ _ _ _ _)
   | (with_reducible exact ih1 _ _ _ _ _ _ _ _ _ _ _)
   | (with_reducible exact tallystickref16_Name.mono _ _ _)
   | (with_reducible exact LeO.refl _)
   | (with_reducible exact LeO.none _)
   | (with_reducible refine LeO.ite ?_ ?_)
   | (with_reducible refine LeO.bind ?_ (fun _ => ?_))
   | exact ih0 _ _ _ _ _ _ _
   | exact ih1 _ _ _ _ _ _ _ _ _ _ _
   | exact tallystickref16_Name.mono _ _ _
   | exact LeO.none _
   | refine LeO.ite ?_ ?_
   | refine LeO.bind ?_ (fun _ => ?_)
def tallystickref16_Find.T8 : Bool × List (List Nat × List Nat) := (true, [([], []), ([0], [0]), ([1], [1]), ([2], [2]), ([3, 2], [2, 3]), ([4, 2, 2], [2, 4]), ([2], [2]), ([6, 2], [2, 6]), ([5, 7, 2], [2, 5, 7]), ([2, 8], [2, 8])])
def tallystickref16_Find.B8 : List Nat := [0, 1, 3, 7, 15, 31, 7, 71, 255, 511]
theorem tallystickref16_Find.tab8 : rtab .any (opsOf Tryd.f10 8) = tallystickref16_Find.T8 := by kernel_rfl
theorem tallystickref16_Find.bits8 : waitsOk tallystickref16_Find.T8.2 tallystickref16_Find.B8 = true := by kernel_rfl
set_option maxHeartbeats 8000000 in
set_option maxRecDepth 100000 in
theorem tallystickref16_Find.calls (k : Nat) (a0_0 : Int) (A0_1 : Option Addr) (c0_1 : Nat) (l0_1 : List (S41)) (a1_0 : Int) (a1_1 : Int) (a1_2 : Int) (r : List (S45)) (w : World) (hr0_1 : Kd.C k41 w A0_1 l0_1.length l0_1) (hc0_1 : l0_1.length ≤ c0_1) (h : tallystickref16_Find.f k a0_0 l0_1 a1_0 a1_1 a1_2 = some r) :
  Calls Tryd.prog 10 #[.agg #[.int .i64 a0_0, .slice A0_1 l0_1.length c0_1], .agg #[.int .i64 a1_0, .int .i64 a1_1, .int .i64 a1_2]] w fun e w' => ∃ v0_ : Value, e = .returned (v0_) ∧ Kd.N k45 45 w' w.heap.size (fun k_ => (w.heap.size ≤ k_)) v0_ r ∧ Below w.heap.size w w' := by
 have hu29 := Tryd.underlying29
 have hu31 := Tryd.underlying31
 have hu41 := Tryd.underlying41
 have hu45 := Tryd.underlying45
 have hu23 := Tryd.underlying23
 have HR0_1 := A_ hr0_1; have HC0_1 := A_ hc0_1; clear hr0_1 hc0_1; have HB := A_ (Below.refl w.heap.size w)
 have H : (tallystickref16_Find.l0 k ([] : List (S45)) 0 a0_0 l0_1 a1_0 a1_1 a1_2) = some r := h
 clear h
 have H' := A_ H
 clear H
 go_enter Tryd.func10, Tryd.ntmps10
 go_wp2_with (first | ((with_reducible refine gate_dst (N := 2) rfl ?_); refine box_event ?hg (N := 2) ?hd (cs := #[.int .i64 a0_0, .slice A0_1 l0_1.length c0_1]) (t := 29) ?hr ?_; (case hd => rfl); (case hg => rfl); (case hr => first | (go_simp; done) | (go_simp; rfl)); intro gb256 hg w3 hbox hb; have BK256 := A_ hbox; have GW256 := A_ ((by rw [hg]; exact (below_size (hB_ w)) : w.heap.size ≤ gb256)); have GE256 := A_ ((by rw [hg]; exact (below_size (hB_ w)) : w.heap.size ≤ gb256)); replace HB := A_ (below_step (hB_ w) hb); clear hb hbox hg) | ((with_reducible refine gate_dst (N := 3) rfl ?_); refine box_event ?hg (N := 3) ?hd (cs := #[.int .i64 a1_0, .int .i64 a1_1, .int .i64 a1_2]) (t := 31) ?hr ?_; (case hd => rfl); (case hg => rfl); (case hr => first | (go_simp; done) | (go_simp; rfl)); intro gb257 hg w4 hbox hb; have BK257 := A_ hbox; have GW257 := A_ ((by rw [hg]; exact (below_size (hB_ w)) : w.heap.size ≤ gb257)); have GE257 := A_ ((by rw [hg]; exact (below_size (hB_ w)) : w.heap.size ≤ gb257)); replace HB := A_ (below_step (hB_ w) hb); have NB256_257 := A_ ((by rw [hg]; exact Nat.ne_of_lt (blk_lt (g := gb256) (b_ BK256)) : gb256 ≠ gb257)); have NB257_256 := A_ ((by rw [hg]; exact Nat.ne_of_gt (blk_lt (g := gb256) (b_ BK256)) : gb257 ≠ gb256)); replace BK256 := A_ (blk_below (g := gb256) (b_ BK256) hb); clear hb hbox hg))
 go_loopg [5, 6] k (fun kq v5 v6 w' => ∃ (x5_1 : List (S45)) (x6_1 : Int), v6 = .int .i64 x6_1 ∧ AsC (tallystickref16_Find.l0 kq x5_1 x6_1 a0_0 l0_1 a1_0 a1_1 a1_2 = some r) ∧ AsC (kq ≤ k) ∧ AsC (Kd.N k45 45 w' w.heap.size (fun k_ => (w.heap.size ≤ k_) ∧ k_ ≠ gb256 ∧ k_ ≠ gb257) v5 x5_1) ∧ AsC (w'.heap[gb256]? = some (.cells #[.int .i64 a0_0, (.slice A0_1 l0_1.length c0_1)] 29 (0, 0))) ∧ AsC (w'.heap[gb257]? = some (.cells #[.int .i64 a1_0, .int .i64 a1_1, .int .i64 a1_2] 31 (0, 0))) ∧ AsC (Below w.heap.size w w'))
 case atStart => exact ⟨(([] : List (S45))), (0), (by first | rfl | (simp; done) | (simp [*]; done)), H', ⟨Nat.le_refl _⟩, ⟨by first | exact Kd.S_nil _ _ _ _ _ | exact Kd.N_nil _ _ _ _ _ | exact Kd.V_nil _ _ _ _ _ | exact Kd.Q_nil _ _ _ _ _ | exact Kd.R_nil _ _ _ _ _⟩, ⟨b_ BK256⟩, ⟨b_ BK257⟩, ⟨hB_ w⟩⟩
 case round =>
  clear H'; try clear c1; try clear p2
  obtain ⟨x5_1, x6_1, rfl, HA, HK1, HO_5, BK256, BK257, HB⟩ := hrel
  cases gk with
  | zero => exact absurd HA.out (by simp [tallystickref16_Find.l0])
  | succ k1 =>
   have H := HA.out; clear HA
   simp only [tallystickref16_Find.l0] at H
   by_cases c5 : x6_1 < (l0_1.length : Int)
   ·rw [if_pos c5] at H
    have c5b0 : decide (x6_1 < (l0_1.length : Int)) = true := decide_eq_true c5
    clear c5
    by_cases c6 : 0 ≤ x6_1
    ·rw [if_pos c6] at H
     have c6b0 : decide (0 ≤ x6_1) = true := decide_eq_true c6
     clear c6; have HC7 := A_ H; clear H; have hnb8 := NB256_257.out; have hnc8 := NB257_256.out; obtain ⟨hcz9_0, hcz9_1, hfz9_0, hfz9_1⟩ := cf2_ BK256
     have p258 : 0 ≤ (x6_1 : Int) := of_decide_eq_true (by first | (with_reducible assumption) | assumption)
     have q258 : x6_1 < (l0_1.length : Int) := of_decide_eq_true (by first | (with_reducible assumption) | assumption)
     obtain ⟨ad258, e258, hx258_0, hx258_1, hx258_2⟩ := at_T41 HR0_1.out x6_1 p258 q258
     cases e258
     replace hx258_0 := (HB.out.cell (World.block_lt_of_cell? w _ hx258_0)).trans hx258_0
     replace hx258_1 := (HB.out.cell (World.block_lt_of_cell? w _ hx258_1)).trans hx258_1
     replace hx258_2 := (HB.out.cell (World.block_lt_of_cell? w _ hx258_2)).trans hx258_2
     replace p258 := eq_true p258
     replace q258 := eq_true q258
     go_upto_region 6 with (first | ((with_reducible refine gate_dst (N := 7) rfl ?_); refine box_event ?hg (N := 7) ?hd (cs := #[.string (⟨#[]⟩ : ByteArray), .string (⟨#[]⟩ : ByteArray), .string (⟨#[]⟩ : ByteArray)]) (t := 41) ?hr ?_; (case hd => rfl); (case hg => rfl); (case hr => first | (go_simp; done) | (go_simp; rfl)); intro gb259 hg w10 hbox hb; replace HO_5 := A_ (Kd.N_below (Kd.N_elderB (n_ HO_5) gb259 (Nat.le_of_eq hg.symm)) hb); have BK259 := A_ hbox; have GW259 := A_ ((by rw [hg]; exact (below_size (hB_ w)) : w.heap.size ≤ gb259)); have GE259 := A_ ((by rw [hg]; exact (below_size (hB_ w)) : w.heap.size ≤ gb259)); replace HB := A_ (below_step (hB_ w) hb); have NB256_259 := A_ ((by rw [hg]; exact Nat.ne_of_lt (blk_lt (g := gb256) (b_ BK256)) : gb256 ≠ gb259)); have NB259_256 := A_ ((by rw [hg]; exact Nat.ne_of_gt (blk_lt (g := gb256) (b_ BK256)) : gb259 ≠ gb256)); replace BK256 := A_ (blk_below (g := gb256) (b_ BK256) hb); have NB257_259 := A_ ((by rw [hg]; exact Nat.ne_of_lt (blk_lt (g := gb257) (b_ BK257)) : gb257 ≠ gb259)); have NB259_257 := A_ ((by rw [hg]; exact Nat.ne_of_gt (blk_lt (g := gb257) (b_ BK257)) : gb259 ≠ gb257)); replace BK257 := A_ (blk_below (g := gb257) (b_ BK257) hb); clear hb hbox hg; have hnb11 := NB259_256.out; have hnc11 := NB256_259.out; have hnb12 := NB259_257.out; have hnc12 := NB257_259.out; obtain ⟨hcz13_0, hcz13_1, hcz13_2, hfz13_0, hfz13_1, hfz13_2⟩ := cf3_ BK259))
     (try simp only [Act.put, List.setIfInBounds_toArray, List.set_cons_zero, List.set_cons_succ])
     go_cut [31] (fun v31 wc => ∃ (kq : Nat) (x31_6 : Bool), v31 = .bool x31_6 ∧ AsC (tallystickref16_Find.j1 kq x5_1 x6_1 x31_6 a0_0 l0_1 a1_0 a1_1 a1_2 ((rd_T41 l0_1 x6_1).f0) ((rd_T41 l0_1 x6_1).f1) ((rd_T41 l0_1 x6_1).f2) = some r) ∧ AsC (kq ≤ k1) ∧ AsC (Kd.N k45 45 wc w.heap.size (fun k_ => (w.heap.size ≤ k_) ∧ k_ ≠ gb256 ∧ k_ ≠ gb257 ∧ k_ ≠ gb259) u5 x5_1) ∧ AsC (wc.heap[gb256]? = some (.cells #[.int .i64 a0_0, (.slice (some ad258) l0_1.length c0_1)] 29 (0, 0))) ∧ AsC (wc.heap[gb257]? = some (.cells #[.int .i64 a1_0, .int .i64 a1_1, .int .i64 a1_2] 31 (0, 0))) ∧ AsC (wc.heap[gb259]? = some (.cells #[.string ((rd_T41 l0_1 x6_1).f0), .string ((rd_T41 l0_1 x6_1).f1), .string ((rd_T41 l0_1 x6_1).f2)] 41 (0, 0))) ∧ AsC (Below w.heap.size w wc))
     case first =>
      have H := HC7.out; clear HC7
      by_cases c14 : (((rd_T41 l0_1 x6_1).f0).size : Int) < 1
      ·rw [if_pos c14] at H
       have c14b0 : decide ((((rd_T41 l0_1 x6_1).f0).size : Int) < 1) = true := decide_eq_true c14
       have c14b1 : decide (((rd_T41 l0_1 x6_1).f0).size < 1) = true := decide_eq_true (by omega)
       clear c14
       (first | rw [c14b0] | (simp only [i64_w, i32_w]; rw [c14b0]) | skip)
       have H' := A_ H
       clear H; have hnb15 := NB259_256.out; have hnc15 := NB256_259.out; have hnb16 := NB259_257.out; have hnc16 := NB257_259.out; obtain ⟨hcz17_0, hcz17_1, hcz17_2, hfz17_0, hfz17_1, hfz17_2⟩ := cf3_ BK259
       go_wp2
       go_meet
       case rel => exact ⟨_, (true), (by first | rfl | (simp; done) | (simp [*]; done)), H', ⟨by have := HK1.out; first | omega | exact Nat.le_refl _⟩, ⟨by (with_reducible repeat (first|apply nA_|apply nN_|apply nD_)); exact Kd.N_mono (Kd.N_far (p := ⟨gb259, 2, none⟩) (Kd.N_far (p := ⟨gb259, 1, none⟩) (Kd.N_far (p := ⟨gb259, 0, none⟩) (Kd.N_mono HO_5.out (fun k_ hk => (⟨hk, hk.2⟩ : _ ∧ k_ ≠ gb259))) (fun _ hk => hk.2) (.string ((rd_T41 l0_1 x6_1).f0))) (fun _ hk => hk.2) (.string ((rd_T41 l0_1 x6_1).f1))) (fun _ hk => hk.2) (.string ((rd_T41 l0_1 x6_1).f2))) (fun _ hk => ⟨hk.1.1.1, ⟨hk.1.1.2.1, ⟨hk.1.1.2.2, hk.1.2⟩⟩⟩)⟩, ⟨by (with_reducible repeat (first|apply bA_|apply bN_|apply bD_)); refine blk_far ?_ NB256_259.out _; (with_reducible repeat (first|apply bA_|apply bN_|apply bD_)); refine blk_far ?_ NB256_259.out _; (with_reducible repeat (first|apply bA_|apply bN_|apply bD_)); refine blk_far ?_ NB256_259.out _; (with_reducible repeat (first|apply bA_|apply bN_|apply bD_)); exact BK256.out⟩, ⟨by (with_reducible repeat (first|apply bA_|apply bN_|apply bD_)); refine blk_far ?_ NB257_259.out _; (with_reducible repeat (first|apply bA_|apply bN_|apply bD_)); refine blk_far ?_ NB257_259.out _; (with_reducible repeat (first|apply bA_|apply bN_|apply bD_)); refine blk_far ?_ NB257_259.out _; (with_reducible repeat (first|apply bA_|apply bN_|apply bD_)); exact BK257.out⟩, ⟨by (with_reducible repeat (first|apply bA_|apply bN_|apply bD_)); refine blk_put (cs := #[.string ((rd_T41 l0_1 x6_1).f0), .string ((rd_T41 l0_1 x6_1).f1), .string (⟨#[]⟩ : ByteArray)]) ?_ 2 _ rfl; (with_reducible repeat (first|apply bA_|apply bN_|apply bD_)); refine blk_put (cs := #[.string ((rd_T41 l0_1 x6_1).f0), .string (⟨#[]⟩ : ByteArray), .string (⟨#[]⟩ : ByteArray)]) ?_ 1 _ rfl; (with_reducible repeat (first|apply bA_|apply bN_|apply bD_)); refine blk_put (cs := #[.string (⟨#[]⟩ : ByteArray), .string (⟨#[]⟩ : ByteArray), .string (⟨#[]⟩ : ByteArray)]) ?_ 0 _ rfl; (with_reducible repeat (first|apply bA_|apply bN_|apply bD_)); exact BK259.out⟩, ⟨hB_ w⟩⟩
      rw [if_neg c14] at H
      have c14b0 : decide ((((rd_T41 l0_1 x6_1).f0).size : Int) < 1) = false := decide_eq_false c14
      have c14b1 : decide (((rd_T41 l0_1 x6_1).f0).size < 1) = false := decide_eq_false (by omega)
      clear c14
      (first | rw [c14b0] | (simp only [i64_w, i32_w]; rw [c14b0]) | skip)
      by_cases c18 : 0 < (((rd_T41 l0_1 x6_1).f0).size : Int)
      ·rw [if_pos c18] at H
       have c18b0 : decide (0 < (((rd_T41 l0_1 x6_1).f0).size : Int)) = true := decide_eq_true c18
       have c18b1 : decide (0 < ((rd_T41 l0_1 x6_1).f0).size) = true := decide_eq_true (by omega)
       clear c18
       have H' := A_ H
       clear H; have hnb20 := NB259_256.out; have hnc20 := NB256_259.out; have hnb21 := NB259_257.out; have hnc21 := NB257_259.out; obtain ⟨hcz22_0, hcz22_1, hcz22_2, hfz22_0, hfz22_1, hfz22_2⟩ := cf3_ BK259
       have p19 : 0 ≤ (0 : Int) := (by omega)
       have q19 : 0 < ((rd_T41 l0_1 x6_1).f0).size := (by have : (0 : Int) < (((rd_T41 l0_1 x6_1).f0).size : Int) := of_decide_eq_true (by first | (with_reducible assumption) | assumption); omega)
       have hx19 : ∀ h : 0 < ((rd_T41 l0_1 x6_1).f0).size, ((((rd_T41 l0_1 x6_1).f0)[0]'h).toNat : Int) = bt ((rd_T41 l0_1 x6_1).f0) 0 := bt_at ((rd_T41 l0_1 x6_1).f0) 0
       clear p19
       have qi19 : (0 < (((rd_T41 l0_1 x6_1).f0).size : Int)) = True := eq_true (of_decide_eq_true (by first | (with_reducible assumption) | assumption))
       replace q19 := eq_true q19
       go_wp2
       go_meet
       case rel => exact ⟨_, (((bt ((rd_T41 l0_1 x6_1).f0) 0) != 99)), (by first | rfl | (simp; done) | (simp [*]; done)), H', ⟨by have := HK1.out; first | omega | exact Nat.le_refl _⟩, ⟨by (with_reducible repeat (first|apply nA_|apply nN_|apply nD_)); exact Kd.N_mono (Kd.N_far (p := ⟨gb259, 2, none⟩) (Kd.N_far (p := ⟨gb259, 1, none⟩) (Kd.N_far (p := ⟨gb259, 0, none⟩) (Kd.N_mono HO_5.out (fun k_ hk => (⟨hk, hk.2⟩ : _ ∧ k_ ≠ gb259))) (fun _ hk => hk.2) (.string ((rd_T41 l0_1 x6_1).f0))) (fun _ hk => hk.2) (.string ((rd_T41 l0_1 x6_1).f1))) (fun _ hk => hk.2) (.string ((rd_T41 l0_1 x6_1).f2))) (fun _ hk => ⟨hk.1.1.1, ⟨hk.1.1.2.1, ⟨hk.1.1.2.2, hk.1.2⟩⟩⟩)⟩, ⟨by (with_reducible repeat (first|apply bA_|apply bN_|apply bD_)); refine blk_far ?_ NB256_259.out _; (with_reducible repeat (first|apply bA_|apply bN_|apply bD_)); refine blk_far ?_ NB256_259.out _; (with_reducible repeat (first|apply bA_|apply bN_|apply bD_)); refine blk_far ?_ NB256_259.out _; (with_reducible repeat (first|apply bA_|apply bN_|apply bD_)); exact BK256.out⟩, ⟨by (with_reducible repeat (first|apply bA_|apply bN_|apply bD_)); refine blk_far ?_ NB257_259.out _; (with_reducible repeat (first|apply bA_|apply bN_|apply bD_)); refine blk_far ?_ NB257_259.out _; (with_reducible repeat (first|apply bA_|apply bN_|apply bD_)); refine blk_far ?_ NB257_259.out _; (with_reducible repeat (first|apply bA_|apply bN_|apply bD_)); exact BK257.out⟩, ⟨by (with_reducible repeat (first|apply bA_|apply bN_|apply bD_)); refine blk_put (cs := #[.string ((rd_T41 l0_1 x6_1).f0), .string ((rd_T41 l0_1 x6_1).f1), .string (⟨#[]⟩ : ByteArray)]) ?_ 2 _ rfl; (with_reducible repeat (first|apply bA_|apply bN_|apply bD_)); refine blk_put (cs := #[.string ((rd_T41 l0_1 x6_1).f0), .string (⟨#[]⟩ : ByteArray), .string (⟨#[]⟩ : ByteArray)]) ?_ 1 _ rfl; (with_reducible repeat (first|apply bA_|apply bN_|apply bD_)); refine blk_put (cs := #[.string (⟨#[]⟩ : ByteArray), .string (⟨#[]⟩ : ByteArray), .string (⟨#[]⟩ : ByteArray)]) ?_ 0 _ rfl; (with_reducible repeat (first|apply bA_|apply bN_|apply bD_)); exact BK259.out⟩, ⟨hB_ w⟩⟩
      rw [if_neg c18] at H
      exact absurd H (by simp)
     case rest =>
      clear HC7; try clear c1; try clear p1; try clear q1; try clear hx1; try clear qi1; try clear c2; try clear p2; try clear q2; try clear hx2; try clear c5; try clear c5b0; try clear c6; try clear c6b0; try clear c8; try clear c10; try clear c11; try clear c12; try clear c14; try clear c14b0; try clear c14b1; try clear c15; try clear c16; try clear c18; try clear c18b0; try clear c18b1; try clear p19; try clear q19; try clear hx19; try clear qi19; try clear c20; try clear c21; try clear hcz13_0; try clear hcz13_1; try clear hcz13_2; try clear hcz17_0; try clear hcz17_1; try clear hcz17_2; try clear hcz22_0; try clear hcz22_1; try clear hcz22_2; try clear hcz9_0; try clear hcz9_1; try clear hfz13_0; try clear hfz13_1; try clear hfz13_2; try clear hfz17_0; try clear hfz17_1; try clear hfz17_2; try clear hfz22_0; try clear hfz22_1; try clear hfz22_2; try clear hfz9_0; try clear hfz9_1; try clear hx258_0; try clear hx258_1; try clear hx258_2; try clear p19; try clear p2; try clear p258; try clear q19; try clear q258
      obtain ⟨kq, x31_6, rfl, HA, HJ6, HO_5, BK256, BK257, BK259, HB⟩ := hcut
      cases kq with
      | zero => exact absurd HA.out (by simp [tallystickref16_Find.j1])
      | succ kj6 =>
       have H := HA.out; clear HA
       simp only [tallystickref16_Find.j1] at H
       by_cases c23 : x31_6 = true
       ·subst c23
        have H1 : (tallystickref16_Find.l0 kj6 x5_1 (wrap64 (x6_1 + 1)) a0_0 l0_1 a1_0 a1_1 a1_2) = some r := by rw [if_pos rfl] at H; exact H
        clear H
        have H := H1
        clear H1
        have H' := A_ H
        clear H
        go_wp2
        go_roundg kj6
        case measure => have := HK1.out; have := HJ6.out; omega
        case rel => exact ⟨(x5_1), (wrap64 (x6_1 + 1)), (by first | rfl | (simp; done) | (simp [*]; done)), H', ⟨by have := HK1.out; have := HJ6.out; omega⟩, ⟨Kd.N_mono (n_ HO_5) (fun _ hk => ⟨hk.1, ⟨hk.2.1, hk.2.2.1⟩⟩)⟩, ⟨b_ BK256⟩, ⟨b_ BK257⟩, ⟨hB_ w⟩⟩
       replace c23 := Bool.eq_false_iff.mpr c23
       subst c23
       have H1 : ((tallystickref14_Of.f ((rd_T41 l0_1 x6_1).f1) a1_0 a1_1 a1_2).bind fun bt260 => (if bt260.2.2.2.2.2.2 = 0 then ((tallystickref16_Name.f kj6 bt260.1 bt260.2.1).bind fun t274 => (if t274.toList = ((rd_T41 l0_1 x6_1).f0).toList then (if x5_1.length < 1466015503701 then (tallystickref16_Find.l0 kj6 (x5_1 ++ [(⟨(⟨bt260.1, bt260.2.1⟩ : S23), bt260.2.2.1, bt260.2.2.2.1, bt260.2.2.2.2.1, bt260.2.2.2.2.2.1⟩ : S45)]) (wrap64 (x6_1 + 1)) a0_0 l0_1 a1_0 a1_1 a1_2) else (none)) else (tallystickref16_Find.l0 kj6 x5_1 (wrap64 (x6_1 + 1)) a0_0 l0_1 a1_0 a1_1 a1_2))) else (tallystickref16_Find.l0 kj6 x5_1 (wrap64 (x6_1 + 1)) a0_0 l0_1 a1_0 a1_1 a1_2))) = some r := by rw [if_neg (show ¬ (false = true) by decide)] at H; exact H
       clear H
       have H := H1
       clear H1
       replace H := Option.bind_eq_some_iff.mp H
       obtain ⟨⟨t260, t261, t262, t265, t268, t271, t272⟩, A240, H⟩ := H
       replace H : (if t272 = 0 then ((tallystickref16_Name.f kj6 t260 t261).bind fun t274 => (if t274.toList = ((rd_T41 l0_1 x6_1).f0).toList then (if x5_1.length < 1466015503701 then (tallystickref16_Find.l0 kj6 (x5_1 ++ [(⟨(⟨t260, t261⟩ : S23), t262, t265, t268, t271⟩ : S45)]) (wrap64 (x6_1 + 1)) a0_0 l0_1 a1_0 a1_1 a1_2) else (none)) else (tallystickref16_Find.l0 kj6 x5_1 (wrap64 (x6_1 + 1)) a0_0 l0_1 a1_0 a1_1 a1_2))) else (tallystickref16_Find.l0 kj6 x5_1 (wrap64 (x6_1 + 1)) a0_0 l0_1 a1_0 a1_1 a1_2)) = some r := H
       have A24 := A_ A240; clear A240
       by_cases c25 : t272 = 0
       ·rw [if_pos c25] at H
        have c25b0 : (t272 == 0) = true := beq_iff_eq.mpr c25
        have c25b1 : (t272 != 0) = false := bne_eq_false_iff_eq.mpr c25
        clear c25
        replace H := Option.bind_eq_some_iff.mp H
        obtain ⟨t274, A260, H⟩ := H
        replace H : (if t274.toList = ((rd_T41 l0_1 x6_1).f0).toList then (if x5_1.length < 1466015503701 then (tallystickref16_Find.l0 kj6 (x5_1 ++ [(⟨(⟨t260, t261⟩ : S23), t262, t265, t268, t271⟩ : S45)]) (wrap64 (x6_1 + 1)) a0_0 l0_1 a1_0 a1_1 a1_2) else (none)) else (tallystickref16_Find.l0 kj6 x5_1 (wrap64 (x6_1 + 1)) a0_0 l0_1 a1_0 a1_1 a1_2)) = some r := H
        have A26 := A_ A260; clear A260
        by_cases c27 : t274.toList = ((rd_T41 l0_1 x6_1).f0).toList
        ·rw [if_pos c27] at H
         have c27b0 : (t274.toList == ((rd_T41 l0_1 x6_1).f0).toList) = true := beq_iff_eq.mpr c27
         have c27b1 : (t274.toList != ((rd_T41 l0_1 x6_1).f0).toList) = false := bne_eq_false_iff_eq.mpr c27
         clear c27
         by_cases c28 : x5_1.length < 1466015503701
         ·rw [if_pos c28] at H
          have LMc28 := A_ c28; clear c28
          obtain ⟨y275, hy275⟩ : ∃ y_ : List (S45), y_ = (x5_1 ++ [(⟨(⟨t260, t261⟩ : S23), t262, t265, t268, t271⟩ : S45)]) := ⟨_, rfl⟩
          replace H : (tallystickref16_Find.l0 kj6 y275 (wrap64 (x6_1 + 1)) a0_0 l0_1 a1_0 a1_1 a1_2) = some r := by first | (rw [hy275]; with_reducible exact H) | (have H2_ := (Option.bind_some _ _).symm.trans H; rw [hy275]; with_reducible exact H2_) | (have H2_ := (Option.bind_some _ _).symm.trans H; with_reducible exact H2_) | with_reducible exact H | (rw [hy275]; exact H) | exact H
          have Ny275 := A_ hy275; clear hy275
          have H' := A_ H
          clear H; have hnb29 := NB259_256.out; have hnc29 := NB256_259.out; have hnb30 := NB259_257.out; have hnc30 := NB257_259.out; obtain ⟨hcz31_0, hcz31_1, hcz31_2, hfz31_0, hfz31_1, hfz31_2⟩ := cf3_ BK259; have hnb32 := NB257_256.out; have hnc32 := NB256_257.out; obtain ⟨hcz33_0, hcz33_1, hcz33_2, hfz33_0, hfz33_1, hfz33_2⟩ := cf3_ BK257
          try go_wp2_with (first | ((with_reducible refine gate_callee (f := 18) rfl ?_); refine goesL_ (some 36) rfl rfl Tryd.func18 (by kernel_rfl) rfl #[.string ((rd_T41 l0_1 x6_1).f1), .agg #[.int .i64 a1_0, .int .i64 a1_1, .int .i64 a1_2]] rfl (by (try simp only [List.map_toArray, List.map_cons, List.map_nil]); first | done | rfl | (simp only [List.length_drop, List.length_take]; rfl)) ?_; (with_reducible refine (tallystickref14_Of.calls ((rd_T41 l0_1 x6_1).f1) a1_0 a1_1 a1_2 t260 t261 t262 t265 t268 t271 t272 _ A24.out).mono ?_); rintro e w34 ⟨v263, v266, v269, rfl, ho0, ho1, ho2, hb⟩; refine ⟨_, rfl, ?_⟩; have HO264 := A_ (Kd.V_lower (Kd.V_mono (ok' := fun k_ => (w.heap.size ≤ k_) ∧ some k_ ≠ (u5 : Value).ownBlock ∧ k_ ≠ gb256 ∧ k_ ≠ gb257 ∧ k_ ≠ gb259) ho0 (fun k_ hk_ => ⟨(Nat.le_trans (below_size (hB_ w)) hk_), (Kd.fresh' (Kd.N_lt (n_ HO_5)) k_ hk_), (Kd.freshB (g := gb256) (b_ BK256) k_ hk_), (Kd.freshB (g := gb257) (b_ BK257) k_ hk_), (Kd.freshB (g := gb259) (b_ BK259) k_ hk_)⟩)) (below_size (hB_ w))); have HO267 := A_ (Kd.V_lower (Kd.V_mono (ok' := fun k_ => (w.heap.size ≤ k_) ∧ some k_ ≠ (u5 : Value).ownBlock ∧ k_ ≠ gb256 ∧ k_ ≠ gb257 ∧ k_ ≠ gb259) ho1 (fun k_ hk_ => ⟨(Nat.le_trans (below_size (hB_ w)) hk_), (Kd.fresh' (Kd.N_lt (n_ HO_5)) k_ hk_), (Kd.freshB (g := gb256) (b_ BK256) k_ hk_), (Kd.freshB (g := gb257) (b_ BK257) k_ hk_), (Kd.freshB (g := gb259) (b_ BK259) k_ hk_)⟩)) (below_size (hB_ w))); have HO270 := A_ (Kd.V_lower (Kd.V_mono (ok' := fun k_ => (w.heap.size ≤ k_) ∧ some k_ ≠ (u5 : Value).ownBlock ∧ k_ ≠ gb256 ∧ k_ ≠ gb257 ∧ k_ ≠ gb259) ho2 (fun k_ hk_ => ⟨(Nat.le_trans (below_size (hB_ w)) hk_), (Kd.fresh' (Kd.N_lt (n_ HO_5)) k_ hk_), (Kd.freshB (g := gb256) (b_ BK256) k_ hk_), (Kd.freshB (g := gb257) (b_ BK257) k_ hk_), (Kd.freshB (g := gb259) (b_ BK259) k_ hk_)⟩)) (below_size (hB_ w))); replace HO_5 := A_ (Kd.N_below (n_ HO_5) hb); replace BK256 := A_ (blk_below (g := gb256) (b_ BK256) hb); replace BK257 := A_ (blk_below (g := gb257) (b_ BK257) hb); replace BK259 := A_ (blk_below (g := gb259) (b_ BK259) hb); replace HB := A_ (below_step (hB_ w) hb); (try clear hb); (try clear hb2); (try clear hk); (try clear hi); (try clear ho0); (try clear ho1); (try clear ho2)) | ((with_reducible refine gate_dst (N := 8) rfl ?_); refine box_event ?hg (N := 8) ?hd (cs := #[.int .i64 0, .int .i64 0, .slice none 0 0, .slice none 0 0, .slice none 0 0, .bool false]) (t := 45) ?hr ?_; (case hd => rfl); (case hg => rfl); (case hr => first | (go_simp; done) | (go_simp; rfl)); intro gb273 hg w35 hbox hb; replace HO_5 := A_ (Kd.N_below (Kd.N_elderB (n_ HO_5) gb273 (Nat.le_of_eq hg.symm)) hb); replace HO264 := A_ (Kd.V_below (Kd.V_elderB (v_ HO264) gb273 (Nat.le_of_eq hg.symm)) hb); replace HO267 := A_ (Kd.V_below (Kd.V_elderB (v_ HO267) gb273 (Nat.le_of_eq hg.symm)) hb); replace HO270 := A_ (Kd.V_below (Kd.V_elderB (v_ HO270) gb273 (Nat.le_of_eq hg.symm)) hb); have BK273 := A_ hbox; have GW273 := A_ ((by rw [hg]; exact (below_size (hB_ w)) : w.heap.size ≤ gb273)); have GE273 := A_ ((by rw [hg]; exact (below_size (hB_ w)) : w.heap.size ≤ gb273)); replace HB := A_ (below_step (hB_ w) hb); have NB256_273 := A_ ((by rw [hg]; exact Nat.ne_of_lt (blk_lt (g := gb256) (b_ BK256)) : gb256 ≠ gb273)); have NB273_256 := A_ ((by rw [hg]; exact Nat.ne_of_gt (blk_lt (g := gb256) (b_ BK256)) : gb273 ≠ gb256)); replace BK256 := A_ (blk_below (g := gb256) (b_ BK256) hb); have NB257_273 := A_ ((by rw [hg]; exact Nat.ne_of_lt (blk_lt (g := gb257) (b_ BK257)) : gb257 ≠ gb273)); have NB273_257 := A_ ((by rw [hg]; exact Nat.ne_of_gt (blk_lt (g := gb257) (b_ BK257)) : gb273 ≠ gb257)); replace BK257 := A_ (blk_below (g := gb257) (b_ BK257) hb); have NB259_273 := A_ ((by rw [hg]; exact Nat.ne_of_lt (blk_lt (g := gb259) (b_ BK259)) : gb259 ≠ gb273)); have NB273_259 := A_ ((by rw [hg]; exact Nat.ne_of_gt (blk_lt (g := gb259) (b_ BK259)) : gb273 ≠ gb259)); replace BK259 := A_ (blk_below (g := gb259) (b_ BK259) hb); clear hb hbox hg; have hnb36 := NB273_256.out; have hnc36 := NB256_273.out; have hnb37 := NB273_257.out; have hnc37 := NB257_273.out; have hnb38 := NB273_259.out; have hnc38 := NB259_273.out; obtain ⟨hcz39_0, hcz39_1, hcz39_2, hcz39_3, hcz39_4, hcz39_5, hfz39_0, hfz39_1, hfz39_2, hfz39_3, hfz39_4, hfz39_5⟩ := cf6_ BK273; obtain ⟨Ao40, co40, eo40⟩ := Kd.V_slice HO264.out; subst eo40; obtain ⟨Ao41, co41, eo41⟩ := Kd.V_slice HO267.out; subst eo41; obtain ⟨Ao42, co42, eo42⟩ := Kd.V_slice HO270.out; subst eo42))
          have n0_ : AsC (Kd.N k45 45 ((((((w35.setCell ⟨gb273, 0, none⟩ (.int .i64 t260)).setCell ⟨gb273, 1, none⟩ (.int .i64 t261)).setCell ⟨gb273, 2, none⟩ (.slice Ao40 t262.length co40)).setCell ⟨gb273, 3, none⟩ (.slice Ao41 t265.length co41)).setCell ⟨gb273, 4, none⟩ (.slice Ao42 t268.length co42)).setCell ⟨gb273, 5, none⟩ (.bool t271)) w.heap.size (fun k_ => (w.heap.size ≤ k_) ∧ k_ ≠ gb256 ∧ k_ ≠ gb257 ∧ k_ ≠ gb259 ∧ k_ ≠ gb273) u5 x5_1) := ⟨by (with_reducible repeat (first|apply nA_|apply nN_|apply nD_)); exact Kd.N_mono (Kd.N_far (p := ⟨gb273, 5, none⟩) (Kd.N_far (p := ⟨gb273, 4, none⟩) (Kd.N_far (p := ⟨gb273, 3, none⟩) (Kd.N_far (p := ⟨gb273, 2, none⟩) (Kd.N_far (p := ⟨gb273, 1, none⟩) (Kd.N_far (p := ⟨gb273, 0, none⟩) (Kd.N_mono HO_5.out (fun k_ hk => (⟨hk, hk.2⟩ : _ ∧ k_ ≠ gb273))) (fun _ hk => hk.2) (.int .i64 t260)) (fun _ hk => hk.2) (.int .i64 t261)) (fun _ hk => hk.2) (.slice Ao40 t262.length co40)) (fun _ hk => hk.2) (.slice Ao41 t265.length co41)) (fun _ hk => hk.2) (.slice Ao42 t268.length co42)) (fun _ hk => hk.2) (.bool t271)) (fun _ hk => ⟨hk.1.1.1, ⟨hk.1.1.2.1, ⟨hk.1.1.2.2.1, ⟨hk.1.1.2.2.2, hk.1.2⟩⟩⟩⟩)⟩
          have n1_ : AsC (Kd.V (Kd.int .u64) 79 ((((((w35.setCell ⟨gb273, 0, none⟩ (.int .i64 t260)).setCell ⟨gb273, 1, none⟩ (.int .i64 t261)).setCell ⟨gb273, 2, none⟩ (.slice Ao40 t262.length co40)).setCell ⟨gb273, 3, none⟩ (.slice Ao41 t265.length co41)).setCell ⟨gb273, 4, none⟩ (.slice Ao42 t268.length co42)).setCell ⟨gb273, 5, none⟩ (.bool t271)) w.heap.size (fun k_ => (w.heap.size ≤ k_) ∧ some k_ ≠ (u5 : Value).ownBlock ∧ k_ ≠ gb256 ∧ k_ ≠ gb257 ∧ k_ ≠ gb259 ∧ k_ ≠ gb273) (.slice Ao40 t262.length co40) t262) := ⟨by (with_reducible repeat (first|apply vA_|apply vN_|apply vD_)); exact Kd.V_mono (Kd.V_far (p := ⟨gb273, 5, none⟩) (Kd.V_far (p := ⟨gb273, 4, none⟩) (Kd.V_far (p := ⟨gb273, 3, none⟩) (Kd.V_far (p := ⟨gb273, 2, none⟩) (Kd.V_far (p := ⟨gb273, 1, none⟩) (Kd.V_far (p := ⟨gb273, 0, none⟩) (Kd.V_mono HO264.out (fun k_ hk => (⟨hk, hk.2⟩ : _ ∧ k_ ≠ gb273))) (fun _ hk => hk.2) (.int .i64 t260)) (fun _ hk => hk.2) (.int .i64 t261)) (fun _ hk => hk.2) (.slice Ao40 t262.length co40)) (fun _ hk => hk.2) (.slice Ao41 t265.length co41)) (fun _ hk => hk.2) (.slice Ao42 t268.length co42)) (fun _ hk => hk.2) (.bool t271)) (fun _ hk => ⟨hk.1.1.1, ⟨hk.1.1.2.1, ⟨hk.1.1.2.2.1, ⟨hk.1.1.2.2.2.1, ⟨hk.1.1.2.2.2.2, hk.1.2⟩⟩⟩⟩⟩)⟩
          have n2_ : AsC (Kd.V (Kd.int .u64) 79 ((((((w35.setCell ⟨gb273, 0, none⟩ (.int .i64 t260)).setCell ⟨gb273, 1, none⟩ (.int .i64 t261)).setCell ⟨gb273, 2, none⟩ (.slice Ao40 t262.length co40)).setCell ⟨gb273, 3, none⟩ (.slice Ao41 t265.length co41)).setCell ⟨gb273, 4, none⟩ (.slice Ao42 t268.length co42)).setCell ⟨gb273, 5, none⟩ (.bool t271)) w.heap.size (fun k_ => (w.heap.size ≤ k_) ∧ some k_ ≠ (u5 : Value).ownBlock ∧ k_ ≠ gb256 ∧ k_ ≠ gb257 ∧ k_ ≠ gb259 ∧ k_ ≠ gb273) (.slice Ao41 t265.length co41) t265) := ⟨by (with_reducible repeat (first|apply vA_|apply vN_|apply vD_)); exact Kd.V_mono (Kd.V_far (p := ⟨gb273, 5, none⟩) (Kd.V_far (p := ⟨gb273, 4, none⟩) (Kd.V_far (p := ⟨gb273, 3, none⟩) (Kd.V_far (p := ⟨gb273, 2, none⟩) (Kd.V_far (p := ⟨gb273, 1, none⟩) (Kd.V_far (p := ⟨gb273, 0, none⟩) (Kd.V_mono HO267.out (fun k_ hk => (⟨hk, hk.2⟩ : _ ∧ k_ ≠ gb273))) (fun _ hk => hk.2) (.int .i64 t260)) (fun _ hk => hk.2) (.int .i64 t261)) (fun _ hk => hk.2) (.slice Ao40 t262.length co40)) (fun _ hk => hk.2) (.slice Ao41 t265.length co41)) (fun _ hk => hk.2) (.slice Ao42 t268.length co42)) (fun _ hk => hk.2) (.bool t271)) (fun _ hk => ⟨hk.1.1.1, ⟨hk.1.1.2.1, ⟨hk.1.1.2.2.1, ⟨hk.1.1.2.2.2.1, ⟨hk.1.1.2.2.2.2, hk.1.2⟩⟩⟩⟩⟩)⟩
          have n3_ : AsC (Kd.V (Kd.int .u64) 79 ((((((w35.setCell ⟨gb273, 0, none⟩ (.int .i64 t260)).setCell ⟨gb273, 1, none⟩ (.int .i64 t261)).setCell ⟨gb273, 2, none⟩ (.slice Ao40 t262.length co40)).setCell ⟨gb273, 3, none⟩ (.slice Ao41 t265.length co41)).setCell ⟨gb273, 4, none⟩ (.slice Ao42 t268.length co42)).setCell ⟨gb273, 5, none⟩ (.bool t271)) w.heap.size (fun k_ => (w.heap.size ≤ k_) ∧ some k_ ≠ (u5 : Value).ownBlock ∧ k_ ≠ gb256 ∧ k_ ≠ gb257 ∧ k_ ≠ gb259 ∧ k_ ≠ gb273) (.slice Ao42 t268.length co42) t268) := ⟨by (with_reducible repeat (first|apply vA_|apply vN_|apply vD_)); exact Kd.V_mono (Kd.V_far (p := ⟨gb273, 5, none⟩) (Kd.V_far (p := ⟨gb273, 4, none⟩) (Kd.V_far (p := ⟨gb273, 3, none⟩) (Kd.V_far (p := ⟨gb273, 2, none⟩) (Kd.V_far (p := ⟨gb273, 1, none⟩) (Kd.V_far (p := ⟨gb273, 0, none⟩) (Kd.V_mono HO270.out (fun k_ hk => (⟨hk, hk.2⟩ : _ ∧ k_ ≠ gb273))) (fun _ hk => hk.2) (.int .i64 t260)) (fun _ hk => hk.2) (.int .i64 t261)) (fun _ hk => hk.2) (.slice Ao40 t262.length co40)) (fun _ hk => hk.2) (.slice Ao41 t265.length co41)) (fun _ hk => hk.2) (.slice Ao42 t268.length co42)) (fun _ hk => hk.2) (.bool t271)) (fun _ hk => ⟨hk.1.1.1, ⟨hk.1.1.2.1, ⟨hk.1.1.2.2.1, ⟨hk.1.1.2.2.2.1, ⟨hk.1.1.2.2.2.2, hk.1.2⟩⟩⟩⟩⟩)⟩
          have n4_ : AsC (((((((w35.setCell ⟨gb273, 0, none⟩ (.int .i64 t260)).setCell ⟨gb273, 1, none⟩ (.int .i64 t261)).setCell ⟨gb273, 2, none⟩ (.slice Ao40 t262.length co40)).setCell ⟨gb273, 3, none⟩ (.slice Ao41 t265.length co41)).setCell ⟨gb273, 4, none⟩ (.slice Ao42 t268.length co42)).setCell ⟨gb273, 5, none⟩ (.bool t271)).heap[gb256]? = some (.cells #[.int .i64 a0_0, .slice (some ad258) l0_1.length c0_1] 29 (0, 0))) := ⟨by (with_reducible repeat (first|apply bA_|apply bN_|apply bD_)); refine blk_far ?_ NB256_273.out _; (with_reducible repeat (first|apply bA_|apply bN_|apply bD_)); refine blk_far ?_ NB256_273.out _; (with_reducible repeat (first|apply bA_|apply bN_|apply bD_)); refine blk_far ?_ NB256_273.out _; (with_reducible repeat (first|apply bA_|apply bN_|apply bD_)); refine blk_far ?_ NB256_273.out _; (with_reducible repeat (first|apply bA_|apply bN_|apply bD_)); refine blk_far ?_ NB256_273.out _; (with_reducible repeat (first|apply bA_|apply bN_|apply bD_)); refine blk_far ?_ NB256_273.out _; (with_reducible repeat (first|apply bA_|apply bN_|apply bD_)); exact BK256.out⟩
          have n5_ : AsC (((((((w35.setCell ⟨gb273, 0, none⟩ (.int .i64 t260)).setCell ⟨gb273, 1, none⟩ (.int .i64 t261)).setCell ⟨gb273, 2, none⟩ (.slice Ao40 t262.length co40)).setCell ⟨gb273, 3, none⟩ (.slice Ao41 t265.length co41)).setCell ⟨gb273, 4, none⟩ (.slice Ao42 t268.length co42)).setCell ⟨gb273, 5, none⟩ (.bool t271)).heap[gb257]? = some (.cells #[.int .i64 a1_0, .int .i64 a1_1, .int .i64 a1_2] 31 (0, 0))) := ⟨by (with_reducible repeat (first|apply bA_|apply bN_|apply bD_)); refine blk_far ?_ NB257_273.out _; (with_reducible repeat (first|apply bA_|apply bN_|apply bD_)); refine blk_far ?_ NB257_273.out _; (with_reducible repeat (first|apply bA_|apply bN_|apply bD_)); refine blk_far ?_ NB257_273.out _; (with_reducible repeat (first|apply bA_|apply bN_|apply bD_)); refine blk_far ?_ NB257_273.out _; (with_reducible repeat (first|apply bA_|apply bN_|apply bD_)); refine blk_far ?_ NB257_273.out _; (with_reducible repeat (first|apply bA_|apply bN_|apply bD_)); refine blk_far ?_ NB257_273.out _; (with_reducible repeat (first|apply bA_|apply bN_|apply bD_)); exact BK257.out⟩
          have n6_ : AsC (((((((w35.setCell ⟨gb273, 0, none⟩ (.int .i64 t260)).setCell ⟨gb273, 1, none⟩ (.int .i64 t261)).setCell ⟨gb273, 2, none⟩ (.slice Ao40 t262.length co40)).setCell ⟨gb273, 3, none⟩ (.slice Ao41 t265.length co41)).setCell ⟨gb273, 4, none⟩ (.slice Ao42 t268.length co42)).setCell ⟨gb273, 5, none⟩ (.bool t271)).heap[gb259]? = some (.cells #[.string ((rd_T41 l0_1 x6_1).f0), .string ((rd_T41 l0_1 x6_1).f1), .string ((rd_T41 l0_1 x6_1).f2)] 41 (0, 0))) := ⟨by (with_reducible repeat (first|apply bA_|apply bN_|apply bD_)); refine blk_far ?_ NB259_273.out _; (with_reducible repeat (first|apply bA_|apply bN_|apply bD_)); refine blk_far ?_ NB259_273.out _; (with_reducible repeat (first|apply bA_|apply bN_|apply bD_)); refine blk_far ?_ NB259_273.out _; (with_reducible repeat (first|apply bA_|apply bN_|apply bD_)); refine blk_far ?_ NB259_273.out _; (with_reducible repeat (first|apply bA_|apply bN_|apply bD_)); refine blk_far ?_ NB259_273.out _; (with_reducible repeat (first|apply bA_|apply bN_|apply bD_)); refine blk_far ?_ NB259_273.out _; (with_reducible repeat (first|apply bA_|apply bN_|apply bD_)); exact BK259.out⟩
          have n7_ : AsC (((((((w35.setCell ⟨gb273, 0, none⟩ (.int .i64 t260)).setCell ⟨gb273, 1, none⟩ (.int .i64 t261)).setCell ⟨gb273, 2, none⟩ (.slice Ao40 t262.length co40)).setCell ⟨gb273, 3, none⟩ (.slice Ao41 t265.length co41)).setCell ⟨gb273, 4, none⟩ (.slice Ao42 t268.length co42)).setCell ⟨gb273, 5, none⟩ (.bool t271)).heap[gb273]? = some (.cells #[.int .i64 t260, .int .i64 t261, .slice Ao40 t262.length co40, .slice Ao41 t265.length co41, .slice Ao42 t268.length co42, .bool t271] 45 (0, 0))) := ⟨by (with_reducible repeat (first|apply bA_|apply bN_|apply bD_)); refine blk_put (cs := #[.int .i64 t260, .int .i64 t261, .slice Ao40 t262.length co40, .slice Ao41 t265.length co41, .slice Ao42 t268.length co42, .bool false]) ?_ 5 _ rfl; (with_reducible repeat (first|apply bA_|apply bN_|apply bD_)); refine blk_put (cs := #[.int .i64 t260, .int .i64 t261, .slice Ao40 t262.length co40, .slice Ao41 t265.length co41, .slice none 0 0, .bool false]) ?_ 4 _ rfl; (with_reducible repeat (first|apply bA_|apply bN_|apply bD_)); refine blk_put (cs := #[.int .i64 t260, .int .i64 t261, .slice Ao40 t262.length co40, .slice none 0 0, .slice none 0 0, .bool false]) ?_ 3 _ rfl; (with_reducible repeat (first|apply bA_|apply bN_|apply bD_)); refine blk_put (cs := #[.int .i64 t260, .int .i64 t261, .slice none 0 0, .slice none 0 0, .slice none 0 0, .bool false]) ?_ 2 _ rfl; (with_reducible repeat (first|apply bA_|apply bN_|apply bD_)); refine blk_put (cs := #[.int .i64 t260, .int .i64 0, .slice none 0 0, .slice none 0 0, .slice none 0 0, .bool false]) ?_ 1 _ rfl; (with_reducible repeat (first|apply bA_|apply bN_|apply bD_)); refine blk_put (cs := #[.int .i64 0, .int .i64 0, .slice none 0 0, .slice none 0 0, .slice none 0 0, .bool false]) ?_ 0 _ rfl; (with_reducible repeat (first|apply bA_|apply bN_|apply bD_)); exact BK273.out⟩
          have n8_ : AsC (Below w.heap.size w ((((((w35.setCell ⟨gb273, 0, none⟩ (.int .i64 t260)).setCell ⟨gb273, 1, none⟩ (.int .i64 t261)).setCell ⟨gb273, 2, none⟩ (.slice Ao40 t262.length co40)).setCell ⟨gb273, 3, none⟩ (.slice Ao41 t265.length co41)).setCell ⟨gb273, 4, none⟩ (.slice Ao42 t268.length co42)).setCell ⟨gb273, 5, none⟩ (.bool t271))) := ⟨hB_ w⟩
          (try clear HO_5)
          (try clear HO264)
          (try clear HO267)
          (try clear HO270)
          (try clear BK256)
          (try clear BK257)
          (try clear BK259)
          (try clear BK273)
          (try clear HB)
          generalize ((((((w35.setCell ⟨gb273, 0, none⟩ (.int .i64 t260)).setCell ⟨gb273, 1, none⟩ (.int .i64 t261)).setCell ⟨gb273, 2, none⟩ (.slice Ao40 t262.length co40)).setCell ⟨gb273, 3, none⟩ (.slice Ao41 t265.length co41)).setCell ⟨gb273, 4, none⟩ (.slice Ao42 t268.length co42)).setCell ⟨gb273, 5, none⟩ (.bool t271)) = w43 at n0_ n1_ n2_ n3_ n4_ n5_ n6_ n7_ n8_ ⊢
          have HO_5 := n0_
          have HO264 := n1_
          have HO267 := n2_
          have HO270 := n3_
          have BK256 := n4_
          have BK257 := n5_
          have BK259 := n6_
          have BK273 := n7_
          have HB := n8_
          clear n0_ n1_ n2_ n3_ n4_ n5_ n6_ n7_ n8_; replace HO_5 := A_ (Kd.N_drew HO_5.out); replace HO264 := A_ (Kd.V_drew HO264.out); replace HO267 := A_ (Kd.V_drew HO267.out); replace HO270 := A_ (Kd.V_drew HO270.out); replace BK256 := A_ (blk_drew BK256.out); replace BK257 := A_ (blk_drew BK257.out); replace BK259 := A_ (blk_drew BK259.out); replace BK273 := A_ (blk_drew BK273.out); replace HB := A_ (below_drew1 HB.out)
          refine start_ (n := 10) (S := fun w' => w'.cell? ⟨gb273, 0, none⟩ = some (.int .i64 t260) ∧ w'.cell? ⟨gb273, 1, none⟩ = some (.int .i64 t261) ∧ w'.cell? ⟨gb273, 2, none⟩ = some (.slice Ao40 t262.length co40) ∧ w'.cell? ⟨gb273, 3, none⟩ = some (.slice Ao41 t265.length co41) ∧ w'.cell? ⟨gb273, 4, none⟩ = some (.slice Ao42 t268.length co42) ∧ w'.cell? ⟨gb273, 5, none⟩ = some (.bool t271) ∧ w'.cell? ⟨gb259, 0, none⟩ = some (.string ((rd_T41 l0_1 x6_1).f0)) ∧ w'.cell? ⟨gb259, 1, none⟩ = some (.string ((rd_T41 l0_1 x6_1).f1)) ∧ w'.cell? ⟨gb259, 2, none⟩ = some (.string ((rd_T41 l0_1 x6_1).f2))) (ds := []) #[false, false, false, false, false, false, false, false, false, false] (by kernel_rfl) rfl rfl ⟨(blk_cell BK273.out 0).trans rfl, (blk_cell BK273.out 1).trans rfl, (blk_cell BK273.out 2).trans rfl, (blk_cell BK273.out 3).trans rfl, (blk_cell BK273.out 4).trans rfl, (blk_cell BK273.out 5).trans rfl, (blk_cell BK259.out 0).trans rfl, (blk_cell BK259.out 1).trans rfl, (blk_cell BK259.out 2).trans rfl⟩ (fun hHeld => ?_); refine with_tabW tallystickref16_Find.tab8 tallystickref16_Find.bits8 (fun HT_ HW_ => ?_)
          generalize w43.drew = w44 at HO_5 HO264 HO267 HO270 BK256 BK257 BK259 BK273 HB hHeld ⊢
          refine pure_ (i := 0) (N := some 39) (v := ?_) (a' := ?_) #[true, false, false, false, false, false, false, false, false, false] rfl rfl (any_of HT_.out (by kernel_rfl)) (fun _ _ _ h => h) (Or.inl ⟨by rfl, ?_⟩) ?_ ?_
          rotate_left
          ·intro w'
           go_simp
           with_reducible rfl
          rotate_left
          ·simp only [Act.put, List.setIfInBounds_toArray, List.set_cons_zero, List.set_cons_succ, i64_w, i32_w]
           rfl
          refine pure_ (i := 1) (N := some 40) (v := ?_) (a' := ?_) #[true, true, false, false, false, false, false, false, false, false] rfl rfl (any_of HT_.out (by kernel_rfl)) (fun _ _ _ h => h) (Or.inl ⟨by rfl, ?_⟩) ?_ ?_
          rotate_left
          ·intro w'
           go_simp
           with_reducible rfl
          rotate_left
          ·simp only [Act.put, List.setIfInBounds_toArray, List.set_cons_zero, List.set_cons_succ, i64_w, i32_w]
           rfl
          refine pure_ (i := 2) (N := some 41) (v := ?_) (a' := ?_) #[true, true, true, false, false, false, false, false, false, false] rfl rfl (any_of HT_.out (by kernel_rfl)) (fun _ _ _ h => h) (Or.inl ⟨by rfl, ?_⟩) ?_ ?_
          rotate_left
          ·intro w'
           go_simp
           with_reducible rfl
          rotate_left
          ·simp only [Act.put, List.setIfInBounds_toArray, List.set_cons_zero, List.set_cons_succ, i64_w, i32_w]
           rfl
          refine pure_ (i := 3) (N := some 42) (v := ?_) (a' := ?_) #[true, true, true, true, false, false, false, false, false, false] rfl rfl (any_of HT_.out (by kernel_rfl)) (fun _ _ _ h => h) (Or.inl ⟨by rfl, ?_⟩) ?_ ?_
          rotate_left
          ·intro w'
           go_simp
           with_reducible rfl
          rotate_left
          ·simp only [Act.put, List.setIfInBounds_toArray, List.set_cons_zero, List.set_cons_succ, i64_w, i32_w]
           rfl
          refine pure_ (i := 6) (N := some 45) (v := ?_) (a' := ?_) #[true, true, true, true, false, false, true, false, false, false] rfl rfl (any_of HT_.out (by kernel_rfl)) (fun _ _ _ h => h) (Or.inl ⟨by rfl, ?_⟩) ?_ ?_
          rotate_left
          ·intro w'
           go_simp
           with_reducible rfl
          rotate_left
          ·simp only [Act.put, List.setIfInBounds_toArray, List.set_cons_zero, List.set_cons_succ, i64_w, i32_w]
           rfl
          refine take_ (i := 4) (N := some 43) (v := ?_) (a' := ?_) #[true, true, true, true, true, false, true, false, false, false] rfl rfl (take_ofW HT_.out HW_.out (by kernel_rfl)) (fun _ _ _ h => h) (Or.inl ⟨by rfl, ?_⟩) hHeld ?_ ?_
          rotate_left
          ·rintro w' ⟨s0, s1, s2, s3, s4, s5, s6, s7, s8⟩
           go_simp
           with_reducible rfl
          rotate_left
          ·simp only [Act.put, List.setIfInBounds_toArray, List.set_cons_zero, List.set_cons_succ, i64_w, i32_w]
           rfl
          refine take_ (i := 7) (N := some 46) (v := ?_) (a' := ?_) #[true, true, true, true, true, false, true, true, false, false] rfl rfl (take_ofW HT_.out HW_.out (by kernel_rfl)) (fun _ _ _ h => h) (Or.inl ⟨by rfl, ?_⟩) hHeld ?_ ?_
          rotate_left
          ·rintro w' ⟨s0, s1, s2, s3, s4, s5, s6, s7, s8⟩
           go_simp
           with_reducible rfl
          rotate_left
          ·simp only [Act.put, List.setIfInBounds_toArray, List.set_cons_zero, List.set_cons_succ, i64_w, i32_w]
           rfl
          refine one_ (i := 5) (N := some 44) #[true, true, true, true, true, true, true, true, false, false] rfl rfl (one_of HT_.out (by kernel_rfl)) (by decide) (fun K hK => ?_)
          refine goes_ Tryd.func19 (by kernel_rfl) rfl #[.agg #[.int .i64 t260, .int .i64 t261]] (by rfl) rfl rfl (by (try simp only [List.map_toArray, List.map_cons, List.map_nil]); first | done | rfl | (simp only [List.length_drop, List.length_take]; rfl)) ?_
          with_reducible refine (tallystickref16_Name.calls kj6 t260 t261 t274 _ A26.out).mono ?_
          rintro e w45 ⟨rfl, hb⟩
          refine ⟨_, rfl, ?_⟩
          replace HO_5 := A_ (Kd.N_below (n_ HO_5) hb); replace HO264 := A_ (Kd.V_below (v_ HO264) hb); replace HO267 := A_ (Kd.V_below (v_ HO267) hb); replace HO270 := A_ (Kd.V_below (v_ HO270) hb); replace BK256 := A_ (blk_below (g := gb256) (b_ BK256) hb); replace BK257 := A_ (blk_below (g := gb257) (b_ BK257) hb); replace BK259 := A_ (blk_below (g := gb259) (b_ BK259) hb); replace BK273 := A_ (blk_below (g := gb273) (b_ BK273) hb); replace HB := A_ (below_step (hB_ w) hb)
          (try clear hb)
          (try clear hb2)
          (try clear hk)
          (try clear hi)
          refine hK.out _ _ ⟨(blk_cell BK273.out 0).trans rfl, (blk_cell BK273.out 1).trans rfl, (blk_cell BK273.out 2).trans rfl, (blk_cell BK273.out 3).trans rfl, (blk_cell BK273.out 4).trans rfl, (blk_cell BK273.out 5).trans rfl, (blk_cell BK259.out 0).trans rfl, (blk_cell BK259.out 1).trans rfl, (blk_cell BK259.out 2).trans rfl⟩ (fun hHeld => ?_)
          clear hK K
          refine norm_ (a' := ?_) ?_ ?_
          rotate_left
          ·show Act.put _ (some 44) _ = _
           simp only [Act.put, List.setIfInBounds_toArray, List.set_cons_zero, List.set_cons_succ, i64_w, i32_w]
           rfl
          refine pure_ (i := 8) (N := some 47) (v := ?_) (a' := ?_) #[true, true, true, true, true, true, true, true, true, false] rfl rfl (any_of HT_.out (by kernel_rfl)) (fun _ _ _ h => h) (Or.inl ⟨by rfl, ?_⟩) ?_ ?_
          rotate_left
          ·intro w'
           go_simp
           with_reducible rfl
          rotate_left
          ·simp only [Act.put, List.setIfInBounds_toArray, List.set_cons_zero, List.set_cons_succ, i64_w, i32_w]
           rfl
          refine pure_ (i := 9) (N := some 48) (v := ?_) (a' := ?_) #[true, true, true, true, true, true, true, true, true, true] rfl rfl (any_of HT_.out (by kernel_rfl)) (fun _ _ _ h => h) (Or.inl ⟨by rfl, ?_⟩) ?_ ?_
          rotate_left
          ·intro w'
           go_simp
           with_reducible rfl
          rotate_left
          ·simp only [Act.put, List.setIfInBounds_toArray, List.set_cons_zero, List.set_cons_succ, i64_w, i32_w]
           rfl
          refine done_ (done_of HT_.out (by kernel_rfl)) ?_
          obtain ⟨hcz46_0, hcz46_1, hcz46_2, hcz46_3, hcz46_4, hcz46_5, hfz46_0, hfz46_1, hfz46_2, hfz46_3, hfz46_4, hfz46_5⟩ := cf6_ BK273
          try go_wp2_with (first | ((with_reducible refine gate_builtin (b := .append) (xs := #[.tmp 49, .tmp 51]) rfl ?_); at_builtin; refine Kd.N_append k45 (w0 := w) w.heap.size rfl (.tmp 49) (.tmp 51) 34 45 (.agg #[(.int .i64 0), (.int .i64 0), (.slice none 0 0), (.slice none 0 0), (.slice none 0 0), (.bool false)]) 96 rfl Tryd.underlying34 info45 rfl (by decide) (by omega) u5 x5_1 (⟨(⟨t260, t261⟩ : S23), t262, t265, t268, t271⟩ : S45) [.int .i64 t260, .int .i64 t261, .slice Ao40 t262.length co40, .slice Ao41 t265.length co41, .slice Ao42 t268.length co42, .bool t271] (fun k_ => (w.heap.size ≤ k_) ∧ k_ ≠ gb256 ∧ k_ ≠ gb257 ∧ k_ ≠ gb259 ∧ k_ ≠ gb273) (fun k_ => ((fun k_ => (w.heap.size ≤ k_) ∧ k_ ≠ gb256 ∧ k_ ≠ gb257 ∧ k_ ≠ gb259 ∧ k_ ≠ gb273)) k_ ∧ some k_ ≠ (u5 : Value).ownBlock) rfl rfl ?aP (fun _ hk => hk) ?aF ?aO ?aB ?aS ?aL ?_; (case aP => exact (k45_mkF _ _ (⟨(⟨t260, t261⟩ : S23), t262, t265, t268, t271⟩ : S45) (Kd.V_reads' (Kd.V_mono (ok' := (fun k_ => ((fun k_ => (w.heap.size ≤ k_) ∧ k_ ≠ gb256 ∧ k_ ≠ gb257 ∧ k_ ≠ gb259 ∧ k_ ≠ gb273)) k_ ∧ some k_ ≠ (u5 : Value).ownBlock)) (HO264.out) (fun k_ hk => ⟨⟨hk.1, ⟨hk.2.2.1, ⟨hk.2.2.2.1, ⟨hk.2.2.2.2.1, hk.2.2.2.2.2⟩⟩⟩⟩, hk.2.1⟩))).2.1 (Kd.V_F (Kd.V_mono (ok' := (fun k_ => ((fun k_ => (w.heap.size ≤ k_) ∧ k_ ≠ gb256 ∧ k_ ≠ gb257 ∧ k_ ≠ gb259 ∧ k_ ≠ gb273)) k_ ∧ some k_ ≠ (u5 : Value).ownBlock)) (HO264.out) (fun k_ hk => ⟨⟨hk.1, ⟨hk.2.2.1, ⟨hk.2.2.2.1, ⟨hk.2.2.2.2.1, hk.2.2.2.2.2⟩⟩⟩⟩, hk.2.1⟩))) (Kd.V_reads' (Kd.V_mono (ok' := (fun k_ => ((fun k_ => (w.heap.size ≤ k_) ∧ k_ ≠ gb256 ∧ k_ ≠ gb257 ∧ k_ ≠ gb259 ∧ k_ ≠ gb273)) k_ ∧ some k_ ≠ (u5 : Value).ownBlock)) (HO267.out) (fun k_ hk => ⟨⟨hk.1, ⟨hk.2.2.1, ⟨hk.2.2.2.1, ⟨hk.2.2.2.2.1, hk.2.2.2.2.2⟩⟩⟩⟩, hk.2.1⟩))).2.1 (Kd.V_F (Kd.V_mono (ok' := (fun k_ => ((fun k_ => (w.heap.size ≤ k_) ∧ k_ ≠ gb256 ∧ k_ ≠ gb257 ∧ k_ ≠ gb259 ∧ k_ ≠ gb273)) k_ ∧ some k_ ≠ (u5 : Value).ownBlock)) (HO267.out) (fun k_ hk => ⟨⟨hk.1, ⟨hk.2.2.1, ⟨hk.2.2.2.1, ⟨hk.2.2.2.2.1, hk.2.2.2.2.2⟩⟩⟩⟩, hk.2.1⟩))) (Kd.V_reads' (Kd.V_mono (ok' := (fun k_ => ((fun k_ => (w.heap.size ≤ k_) ∧ k_ ≠ gb256 ∧ k_ ≠ gb257 ∧ k_ ≠ gb259 ∧ k_ ≠ gb273)) k_ ∧ some k_ ≠ (u5 : Value).ownBlock)) (HO270.out) (fun k_ hk => ⟨⟨hk.1, ⟨hk.2.2.1, ⟨hk.2.2.2.1, ⟨hk.2.2.2.2.1, hk.2.2.2.2.2⟩⟩⟩⟩, hk.2.1⟩))).2.1 (Kd.V_F (Kd.V_mono (ok' := (fun k_ => ((fun k_ => (w.heap.size ≤ k_) ∧ k_ ≠ gb256 ∧ k_ ≠ gb257 ∧ k_ ≠ gb259 ∧ k_ ≠ gb273)) k_ ∧ some k_ ≠ (u5 : Value).ownBlock)) (HO270.out) (fun k_ hk => ⟨⟨hk.1, ⟨hk.2.2.1, ⟨hk.2.2.2.1, ⟨hk.2.2.2.2.1, hk.2.2.2.2.2⟩⟩⟩⟩, hk.2.1⟩))))); (case aB => exact (hB_ w)); (case aF => exact (fun k_ hk => ⟨(Nat.le_trans (below_size (hB_ w)) hk), Kd.freshB (g := gb256) (b_ BK256) k_ hk, Kd.freshB (g := gb257) (b_ BK257) k_ hk, Kd.freshB (g := gb259) (b_ BK259) k_ hk, Kd.freshB (g := gb273) (b_ BK273) k_ hk⟩)); (case aO => exact (n_ HO_5)); (case aS => exact (below_size (hB_ w))); (case aL => have := LMc28.out; omega); intro v276 w47 ho hb hg hat; rw [← Ny275.out] at ho; replace BK256 := A_ (blk_grown (g := gb256) (b_ BK256) hg (Kd.N_ne HO_5.out BK256.out (by decide))); replace BK257 := A_ (blk_grown (g := gb257) (b_ BK257) hg (Kd.N_ne HO_5.out BK257.out (by decide))); replace BK259 := A_ (blk_grown (g := gb259) (b_ BK259) hg (Kd.N_ne HO_5.out BK259.out (by decide))); replace HO264 := A_ (Kd.V_afterv (ok := (fun k_ => (w.heap.size ≤ k_) ∧ k_ ≠ gb256 ∧ k_ ≠ gb257 ∧ k_ ≠ gb259 ∧ k_ ≠ gb273)) (Kd.V_mono (v_ HO264) (fun _ hk => ⟨⟨hk.1, ⟨hk.2.2.1, ⟨hk.2.2.2.1, ⟨hk.2.2.2.2.1, hk.2.2.2.2.2⟩⟩⟩⟩, hk.2.1⟩)) hg hat); replace HO267 := A_ (Kd.V_afterv (ok := (fun k_ => (w.heap.size ≤ k_) ∧ k_ ≠ gb256 ∧ k_ ≠ gb257 ∧ k_ ≠ gb259 ∧ k_ ≠ gb273)) (Kd.V_mono (v_ HO267) (fun _ hk => ⟨⟨hk.1, ⟨hk.2.2.1, ⟨hk.2.2.2.1, ⟨hk.2.2.2.2.1, hk.2.2.2.2.2⟩⟩⟩⟩, hk.2.1⟩)) hg hat); replace HO270 := A_ (Kd.V_afterv (ok := (fun k_ => (w.heap.size ≤ k_) ∧ k_ ≠ gb256 ∧ k_ ≠ gb257 ∧ k_ ≠ gb259 ∧ k_ ≠ gb273)) (Kd.V_mono (v_ HO270) (fun _ hk => ⟨⟨hk.1, ⟨hk.2.2.1, ⟨hk.2.2.2.1, ⟨hk.2.2.2.2.1, hk.2.2.2.2.2⟩⟩⟩⟩, hk.2.1⟩)) hg hat); replace BK273 := A_ (blk_grown (g := gb273) (b_ BK273) hg (Kd.N_away HO_5.out (fun _ hk => hk.2.2.2.2))); replace HB := A_ hb; have HO277 := A_ ho; clear HO_5; clear ho hb hg hat))
          go_roundg kj6
          case measure => have := HK1.out; have := HJ6.out; omega
          case rel => exact ⟨(y275), (wrap64 (x6_1 + 1)), (by first | rfl | (simp; done) | (simp [*]; done)), H', ⟨by have := HK1.out; have := HJ6.out; omega⟩, ⟨Kd.N_mono (n_ HO277) (fun _ hk => ⟨hk.1, ⟨hk.2.1, hk.2.2.1⟩⟩)⟩, ⟨b_ BK256⟩, ⟨b_ BK257⟩, ⟨hB_ w⟩⟩
         rw [if_neg c28] at H
         exact absurd H (by simp)
        rw [if_neg c27] at H
        have c27b0 : (t274.toList == ((rd_T41 l0_1 x6_1).f0).toList) = false := beq_eq_false_iff_ne.mpr c27
        have c27b1 : (t274.toList != ((rd_T41 l0_1 x6_1).f0).toList) = true := bne_iff_ne.mpr c27
        have H' := A_ H
        clear H; have hnb48 := NB259_256.out; have hnc48 := NB256_259.out; have hnb49 := NB259_257.out; have hnc49 := NB257_259.out; obtain ⟨hcz50_0, hcz50_1, hcz50_2, hfz50_0, hfz50_1, hfz50_2⟩ := cf3_ BK259; have hnb51 := NB257_256.out; have hnc51 := NB256_257.out; obtain ⟨hcz52_0, hcz52_1, hcz52_2, hfz52_0, hfz52_1, hfz52_2⟩ := cf3_ BK257
        try go_wp2_with (first | ((with_reducible refine gate_callee (f := 18) rfl ?_); refine goesL_ (some 36) rfl rfl Tryd.func18 (by kernel_rfl) rfl #[.string ((rd_T41 l0_1 x6_1).f1), .agg #[.int .i64 a1_0, .int .i64 a1_1, .int .i64 a1_2]] rfl (by (try simp only [List.map_toArray, List.map_cons, List.map_nil]); first | done | rfl | (simp only [List.length_drop, List.length_take]; rfl)) ?_; (with_reducible refine (tallystickref14_Of.calls ((rd_T41 l0_1 x6_1).f1) a1_0 a1_1 a1_2 t260 t261 t262 t265 t268 t271 t272 _ A24.out).mono ?_); rintro e w53 ⟨v263, v266, v269, rfl, ho0, ho1, ho2, hb⟩; refine ⟨_, rfl, ?_⟩; have HO264 := A_ (Kd.V_lower (Kd.V_mono (ok' := fun k_ => (w.heap.size ≤ k_) ∧ some k_ ≠ (u5 : Value).ownBlock ∧ k_ ≠ gb256 ∧ k_ ≠ gb257 ∧ k_ ≠ gb259) ho0 (fun k_ hk_ => ⟨(Nat.le_trans (below_size (hB_ w)) hk_), (Kd.fresh' (Kd.N_lt (n_ HO_5)) k_ hk_), (Kd.freshB (g := gb256) (b_ BK256) k_ hk_), (Kd.freshB (g := gb257) (b_ BK257) k_ hk_), (Kd.freshB (g := gb259) (b_ BK259) k_ hk_)⟩)) (below_size (hB_ w))); have HO267 := A_ (Kd.V_lower (Kd.V_mono (ok' := fun k_ => (w.heap.size ≤ k_) ∧ some k_ ≠ (u5 : Value).ownBlock ∧ k_ ≠ gb256 ∧ k_ ≠ gb257 ∧ k_ ≠ gb259) ho1 (fun k_ hk_ => ⟨(Nat.le_trans (below_size (hB_ w)) hk_), (Kd.fresh' (Kd.N_lt (n_ HO_5)) k_ hk_), (Kd.freshB (g := gb256) (b_ BK256) k_ hk_), (Kd.freshB (g := gb257) (b_ BK257) k_ hk_), (Kd.freshB (g := gb259) (b_ BK259) k_ hk_)⟩)) (below_size (hB_ w))); have HO270 := A_ (Kd.V_lower (Kd.V_mono (ok' := fun k_ => (w.heap.size ≤ k_) ∧ some k_ ≠ (u5 : Value).ownBlock ∧ k_ ≠ gb256 ∧ k_ ≠ gb257 ∧ k_ ≠ gb259) ho2 (fun k_ hk_ => ⟨(Nat.le_trans (below_size (hB_ w)) hk_), (Kd.fresh' (Kd.N_lt (n_ HO_5)) k_ hk_), (Kd.freshB (g := gb256) (b_ BK256) k_ hk_), (Kd.freshB (g := gb257) (b_ BK257) k_ hk_), (Kd.freshB (g := gb259) (b_ BK259) k_ hk_)⟩)) (below_size (hB_ w))); replace HO_5 := A_ (Kd.N_below (n_ HO_5) hb); replace BK256 := A_ (blk_below (g := gb256) (b_ BK256) hb); replace BK257 := A_ (blk_below (g := gb257) (b_ BK257) hb); replace BK259 := A_ (blk_below (g := gb259) (b_ BK259) hb); replace HB := A_ (below_step (hB_ w) hb); (try clear hb); (try clear hb2); (try clear hk); (try clear hi); (try clear ho0); (try clear ho1); (try clear ho2)) | ((with_reducible refine gate_dst (N := 8) rfl ?_); refine box_event ?hg (N := 8) ?hd (cs := #[.int .i64 0, .int .i64 0, .slice none 0 0, .slice none 0 0, .slice none 0 0, .bool false]) (t := 45) ?hr ?_; (case hd => rfl); (case hg => rfl); (case hr => first | (go_simp; done) | (go_simp; rfl)); intro gb273 hg w54 hbox hb; replace HO_5 := A_ (Kd.N_below (Kd.N_elderB (n_ HO_5) gb273 (Nat.le_of_eq hg.symm)) hb); replace HO264 := A_ (Kd.V_below (Kd.V_elderB (v_ HO264) gb273 (Nat.le_of_eq hg.symm)) hb); replace HO267 := A_ (Kd.V_below (Kd.V_elderB (v_ HO267) gb273 (Nat.le_of_eq hg.symm)) hb); replace HO270 := A_ (Kd.V_below (Kd.V_elderB (v_ HO270) gb273 (Nat.le_of_eq hg.symm)) hb); have BK273 := A_ hbox; have GW273 := A_ ((by rw [hg]; exact (below_size (hB_ w)) : w.heap.size ≤ gb273)); have GE273 := A_ ((by rw [hg]; exact (below_size (hB_ w)) : w.heap.size ≤ gb273)); replace HB := A_ (below_step (hB_ w) hb); have NB256_273 := A_ ((by rw [hg]; exact Nat.ne_of_lt (blk_lt (g := gb256) (b_ BK256)) : gb256 ≠ gb273)); have NB273_256 := A_ ((by rw [hg]; exact Nat.ne_of_gt (blk_lt (g := gb256) (b_ BK256)) : gb273 ≠ gb256)); replace BK256 := A_ (blk_below (g := gb256) (b_ BK256) hb); have NB257_273 := A_ ((by rw [hg]; exact Nat.ne_of_lt (blk_lt (g := gb257) (b_ BK257)) : gb257 ≠ gb273)); have NB273_257 := A_ ((by rw [hg]; exact Nat.ne_of_gt (blk_lt (g := gb257) (b_ BK257)) : gb273 ≠ gb257)); replace BK257 := A_ (blk_below (g := gb257) (b_ BK257) hb); have NB259_273 := A_ ((by rw [hg]; exact Nat.ne_of_lt (blk_lt (g := gb259) (b_ BK259)) : gb259 ≠ gb273)); have NB273_259 := A_ ((by rw [hg]; exact Nat.ne_of_gt (blk_lt (g := gb259) (b_ BK259)) : gb273 ≠ gb259)); replace BK259 := A_ (blk_below (g := gb259) (b_ BK259) hb); clear hb hbox hg; have hnb55 := NB273_256.out; have hnc55 := NB256_273.out; have hnb56 := NB273_257.out; have hnc56 := NB257_273.out; have hnb57 := NB273_259.out; have hnc57 := NB259_273.out; obtain ⟨hcz58_0, hcz58_1, hcz58_2, hcz58_3, hcz58_4, hcz58_5, hfz58_0, hfz58_1, hfz58_2, hfz58_3, hfz58_4, hfz58_5⟩ := cf6_ BK273; obtain ⟨Ao59, co59, eo59⟩ := Kd.V_slice HO264.out; subst eo59; obtain ⟨Ao60, co60, eo60⟩ := Kd.V_slice HO267.out; subst eo60; obtain ⟨Ao61, co61, eo61⟩ := Kd.V_slice HO270.out; subst eo61))
        have n0_ : AsC (Kd.N k45 45 ((((((w54.setCell ⟨gb273, 0, none⟩ (.int .i64 t260)).setCell ⟨gb273, 1, none⟩ (.int .i64 t261)).setCell ⟨gb273, 2, none⟩ (.slice Ao59 t262.length co59)).setCell ⟨gb273, 3, none⟩ (.slice Ao60 t265.length co60)).setCell ⟨gb273, 4, none⟩ (.slice Ao61 t268.length co61)).setCell ⟨gb273, 5, none⟩ (.bool t271)) w.heap.size (fun k_ => (w.heap.size ≤ k_) ∧ k_ ≠ gb256 ∧ k_ ≠ gb257 ∧ k_ ≠ gb259 ∧ k_ ≠ gb273) u5 x5_1) := ⟨by (with_reducible repeat (first|apply nA_|apply nN_|apply nD_)); exact Kd.N_mono (Kd.N_far (p := ⟨gb273, 5, none⟩) (Kd.N_far (p := ⟨gb273, 4, none⟩) (Kd.N_far (p := ⟨gb273, 3, none⟩) (Kd.N_far (p := ⟨gb273, 2, none⟩) (Kd.N_far (p := ⟨gb273, 1, none⟩) (Kd.N_far (p := ⟨gb273, 0, none⟩) (Kd.N_mono HO_5.out (fun k_ hk => (⟨hk, hk.2⟩ : _ ∧ k_ ≠ gb273))) (fun _ hk => hk.2) (.int .i64 t260)) (fun _ hk => hk.2) (.int .i64 t261)) (fun _ hk => hk.2) (.slice Ao59 t262.length co59)) (fun _ hk => hk.2) (.slice Ao60 t265.length co60)) (fun _ hk => hk.2) (.slice Ao61 t268.length co61)) (fun _ hk => hk.2) (.bool t271)) (fun _ hk => ⟨hk.1.1.1, ⟨hk.1.1.2.1, ⟨hk.1.1.2.2.1, ⟨hk.1.1.2.2.2, hk.1.2⟩⟩⟩⟩)⟩
        have n1_ : AsC (Kd.V (Kd.int .u64) 79 ((((((w54.setCell ⟨gb273, 0, none⟩ (.int .i64 t260)).setCell ⟨gb273, 1, none⟩ (.int .i64 t261)).setCell ⟨gb273, 2, none⟩ (.slice Ao59 t262.length co59)).setCell ⟨gb273, 3, none⟩ (.slice Ao60 t265.length co60)).setCell ⟨gb273, 4, none⟩ (.slice Ao61 t268.length co61)).setCell ⟨gb273, 5, none⟩ (.bool t271)) w.heap.size (fun k_ => (w.heap.size ≤ k_) ∧ some k_ ≠ (u5 : Value).ownBlock ∧ k_ ≠ gb256 ∧ k_ ≠ gb257 ∧ k_ ≠ gb259 ∧ k_ ≠ gb273) (.slice Ao59 t262.length co59) t262) := ⟨by (with_reducible repeat (first|apply vA_|apply vN_|apply vD_)); exact Kd.V_mono (Kd.V_far (p := ⟨gb273, 5, none⟩) (Kd.V_far (p := ⟨gb273, 4, none⟩) (Kd.V_far (p := ⟨gb273, 3, none⟩) (Kd.V_far (p := ⟨gb273, 2, none⟩) (Kd.V_far (p := ⟨gb273, 1, none⟩) (Kd.V_far (p := ⟨gb273, 0, none⟩) (Kd.V_mono HO264.out (fun k_ hk => (⟨hk, hk.2⟩ : _ ∧ k_ ≠ gb273))) (fun _ hk => hk.2) (.int .i64 t260)) (fun _ hk => hk.2) (.int .i64 t261)) (fun _ hk => hk.2) (.slice Ao59 t262.length co59)) (fun _ hk => hk.2) (.slice Ao60 t265.length co60)) (fun _ hk => hk.2) (.slice Ao61 t268.length co61)) (fun _ hk => hk.2) (.bool t271)) (fun _ hk => ⟨hk.1.1.1, ⟨hk.1.1.2.1, ⟨hk.1.1.2.2.1, ⟨hk.1.1.2.2.2.1, ⟨hk.1.1.2.2.2.2, hk.1.2⟩⟩⟩⟩⟩)⟩
        have n2_ : AsC (Kd.V (Kd.int .u64) 79 ((((((w54.setCell ⟨gb273, 0, none⟩ (.int .i64 t260)).setCell ⟨gb273, 1, none⟩ (.int .i64 t261)).setCell ⟨gb273, 2, none⟩ (.slice Ao59 t262.length co59)).setCell ⟨gb273, 3, none⟩ (.slice Ao60 t265.length co60)).setCell ⟨gb273, 4, none⟩ (.slice Ao61 t268.length co61)).setCell ⟨gb273, 5, none⟩ (.bool t271)) w.heap.size (fun k_ => (w.heap.size ≤ k_) ∧ some k_ ≠ (u5 : Value).ownBlock ∧ k_ ≠ gb256 ∧ k_ ≠ gb257 ∧ k_ ≠ gb259 ∧ k_ ≠ gb273) (.slice Ao60 t265.length co60) t265) := ⟨by (with_reducible repeat (first|apply vA_|apply vN_|apply vD_)); exact Kd.V_mono (Kd.V_far (p := ⟨gb273, 5, none⟩) (Kd.V_far (p := ⟨gb273, 4, none⟩) (Kd.V_far (p := ⟨gb273, 3, none⟩) (Kd.V_far (p := ⟨gb273, 2, none⟩) (Kd.V_far (p := ⟨gb273, 1, none⟩) (Kd.V_far (p := ⟨gb273, 0, none⟩) (Kd.V_mono HO267.out (fun k_ hk => (⟨hk, hk.2⟩ : _ ∧ k_ ≠ gb273))) (fun _ hk => hk.2) (.int .i64 t260)) (fun _ hk => hk.2) (.int .i64 t261)) (fun _ hk => hk.2) (.slice Ao59 t262.length co59)) (fun _ hk => hk.2) (.slice Ao60 t265.length co60)) (fun _ hk => hk.2) (.slice Ao61 t268.length co61)) (fun _ hk => hk.2) (.bool t271)) (fun _ hk => ⟨hk.1.1.1, ⟨hk.1.1.2.1, ⟨hk.1.1.2.2.1, ⟨hk.1.1.2.2.2.1, ⟨hk.1.1.2.2.2.2, hk.1.2⟩⟩⟩⟩⟩)⟩
        have n3_ : AsC (Kd.V (Kd.int .u64) 79 ((((((w54.setCell ⟨gb273, 0, none⟩ (.int .i64 t260)).setCell ⟨gb273, 1, none⟩ (.int .i64 t261)).setCell ⟨gb273, 2, none⟩ (.slice Ao59 t262.length co59)).setCell ⟨gb273, 3, none⟩ (.slice Ao60 t265.length co60)).setCell ⟨gb273, 4, none⟩ (.slice Ao61 t268.length co61)).setCell ⟨gb273, 5, none⟩ (.bool t271)) w.heap.size (fun k_ => (w.heap.size ≤ k_) ∧ some k_ ≠ (u5 : Value).ownBlock ∧ k_ ≠ gb256 ∧ k_ ≠ gb257 ∧ k_ ≠ gb259 ∧ k_ ≠ gb273) (.slice Ao61 t268.length co61) t268) := ⟨by (with_reducible repeat (first|apply vA_|apply vN_|apply vD_)); exact Kd.V_mono (Kd.V_far (p := ⟨gb273, 5, none⟩) (Kd.V_far (p := ⟨gb273, 4, none⟩) (Kd.V_far (p := ⟨gb273, 3, none⟩) (Kd.V_far (p := ⟨gb273, 2, none⟩) (Kd.V_far (p := ⟨gb273, 1, none⟩) (Kd.V_far (p := ⟨gb273, 0, none⟩) (Kd.V_mono HO270.out (fun k_ hk => (⟨hk, hk.2⟩ : _ ∧ k_ ≠ gb273))) (fun _ hk => hk.2) (.int .i64 t260)) (fun _ hk => hk.2) (.int .i64 t261)) (fun _ hk => hk.2) (.slice Ao59 t262.length co59)) (fun _ hk => hk.2) (.slice Ao60 t265.length co60)) (fun _ hk => hk.2) (.slice Ao61 t268.length co61)) (fun _ hk => hk.2) (.bool t271)) (fun _ hk => ⟨hk.1.1.1, ⟨hk.1.1.2.1, ⟨hk.1.1.2.2.1, ⟨hk.1.1.2.2.2.1, ⟨hk.1.1.2.2.2.2, hk.1.2⟩⟩⟩⟩⟩)⟩
        have n4_ : AsC (((((((w54.setCell ⟨gb273, 0, none⟩ (.int .i64 t260)).setCell ⟨gb273, 1, none⟩ (.int .i64 t261)).setCell ⟨gb273, 2, none⟩ (.slice Ao59 t262.length co59)).setCell ⟨gb273, 3, none⟩ (.slice Ao60 t265.length co60)).setCell ⟨gb273, 4, none⟩ (.slice Ao61 t268.length co61)).setCell ⟨gb273, 5, none⟩ (.bool t271)).heap[gb256]? = some (.cells #[.int .i64 a0_0, .slice (some ad258) l0_1.length c0_1] 29 (0, 0))) := ⟨by (with_reducible repeat (first|apply bA_|apply bN_|apply bD_)); refine blk_far ?_ NB256_273.out _; (with_reducible repeat (first|apply bA_|apply bN_|apply bD_)); refine blk_far ?_ NB256_273.out _; (with_reducible repeat (first|apply bA_|apply bN_|apply bD_)); refine blk_far ?_ NB256_273.out _; (with_reducible repeat (first|apply bA_|apply bN_|apply bD_)); refine blk_far ?_ NB256_273.out _; (with_reducible repeat (first|apply bA_|apply bN_|apply bD_)); refine blk_far ?_ NB256_273.out _; (with_reducible repeat (first|apply bA_|apply bN_|apply bD_)); refine blk_far ?_ NB256_273.out _; (with_reducible repeat (first|apply bA_|apply bN_|apply bD_)); exact BK256.out⟩
        have n5_ : AsC (((((((w54.setCell ⟨gb273, 0, none⟩ (.int .i64 t260)).setCell ⟨gb273, 1, none⟩ (.int .i64 t261)).setCell ⟨gb273, 2, none⟩ (.slice Ao59 t262.length co59)).setCell ⟨gb273, 3, none⟩ (.slice Ao60 t265.length co60)).setCell ⟨gb273, 4, none⟩ (.slice Ao61 t268.length co61)).setCell ⟨gb273, 5, none⟩ (.bool t271)).heap[gb257]? = some (.cells #[.int .i64 a1_0, .int .i64 a1_1, .int .i64 a1_2] 31 (0, 0))) := ⟨by (with_reducible repeat (first|apply bA_|apply bN_|apply bD_)); refine blk_far ?_ NB257_273.out _; (with_reducible repeat (first|apply bA_|apply bN_|apply bD_)); refine blk_far ?_ NB257_273.out _; (with_reducible repeat (first|apply bA_|apply bN_|apply bD_)); refine blk_far ?_ NB257_273.out _; (with_reducible repeat (first|apply bA_|apply bN_|apply bD_)); refine blk_far ?_ NB257_273.out _; (with_reducible repeat (first|apply bA_|apply bN_|apply bD_)); refine blk_far ?_ NB257_273.out _; (with_reducible repeat (first|apply bA_|apply bN_|apply bD_)); refine blk_far ?_ NB257_273.out _; (with_reducible repeat (first|apply bA_|apply bN_|apply bD_)); exact BK257.out⟩
        have n6_ : AsC (((((((w54.setCell ⟨gb273, 0, none⟩ (.int .i64 t260)).setCell ⟨gb273, 1, none⟩ (.int .i64 t261)).setCell ⟨gb273, 2, none⟩ (.slice Ao59 t262.length co59)).setCell ⟨gb273, 3, none⟩ (.slice Ao60 t265.length co60)).setCell ⟨gb273, 4, none⟩ (.slice Ao61 t268.length co61)).setCell ⟨gb273, 5, none⟩ (.bool t271)).heap[gb259]? = some (.cells #[.string ((rd_T41 l0_1 x6_1).f0), .string ((rd_T41 l0_1 x6_1).f1), .string ((rd_T41 l0_1 x6_1).f2)] 41 (0, 0))) := ⟨by (with_reducible repeat (first|apply bA_|apply bN_|apply bD_)); refine blk_far ?_ NB259_273.out _; (with_reducible repeat (first|apply bA_|apply bN_|apply bD_)); refine blk_far ?_ NB259_273.out _; (with_reducible repeat (first|apply bA_|apply bN_|apply bD_)); refine blk_far ?_ NB259_273.out _; (with_reducible repeat (first|apply bA_|apply bN_|apply bD_)); refine blk_far ?_ NB259_273.out _; (with_reducible repeat (first|apply bA_|apply bN_|apply bD_)); refine blk_far ?_ NB259_273.out _; (with_reducible repeat (first|apply bA_|apply bN_|apply bD_)); refine blk_far ?_ NB259_273.out _; (with_reducible repeat (first|apply bA_|apply bN_|apply bD_)); exact BK259.out⟩
        have n7_ : AsC (((((((w54.setCell ⟨gb273, 0, none⟩ (.int .i64 t260)).setCell ⟨gb273, 1, none⟩ (.int .i64 t261)).setCell ⟨gb273, 2, none⟩ (.slice Ao59 t262.length co59)).setCell ⟨gb273, 3, none⟩ (.slice Ao60 t265.length co60)).setCell ⟨gb273, 4, none⟩ (.slice Ao61 t268.length co61)).setCell ⟨gb273, 5, none⟩ (.bool t271)).heap[gb273]? = some (.cells #[.int .i64 t260, .int .i64 t261, .slice Ao59 t262.length co59, .slice Ao60 t265.length co60, .slice Ao61 t268.length co61, .bool t271] 45 (0, 0))) := ⟨by (with_reducible repeat (first|apply bA_|apply bN_|apply bD_)); refine blk_put (cs := #[.int .i64 t260, .int .i64 t261, .slice Ao59 t262.length co59, .slice Ao60 t265.length co60, .slice Ao61 t268.length co61, .bool false]) ?_ 5 _ rfl; (with_reducible repeat (first|apply bA_|apply bN_|apply bD_)); refine blk_put (cs := #[.int .i64 t260, .int .i64 t261, .slice Ao59 t262.length co59, .slice Ao60 t265.length co60, .slice none 0 0, .bool false]) ?_ 4 _ rfl; (with_reducible repeat (first|apply bA_|apply bN_|apply bD_)); refine blk_put (cs := #[.int .i64 t260, .int .i64 t261, .slice Ao59 t262.length co59, .slice none 0 0, .slice none 0 0, .bool false]) ?_ 3 _ rfl; (with_reducible repeat (first|apply bA_|apply bN_|apply bD_)); refine blk_put (cs := #[.int .i64 t260, .int .i64 t261, .slice none 0 0, .slice none 0 0, .slice none 0 0, .bool false]) ?_ 2 _ rfl; (with_reducible repeat (first|apply bA_|apply bN_|apply bD_)); refine blk_put (cs := #[.int .i64 t260, .int .i64 0, .slice none 0 0, .slice none 0 0, .slice none 0 0, .bool false]) ?_ 1 _ rfl; (with_reducible repeat (first|apply bA_|apply bN_|apply bD_)); refine blk_put (cs := #[.int .i64 0, .int .i64 0, .slice none 0 0, .slice none 0 0, .slice none 0 0, .bool false]) ?_ 0 _ rfl; (with_reducible repeat (first|apply bA_|apply bN_|apply bD_)); exact BK273.out⟩
        have n8_ : AsC (Below w.heap.size w ((((((w54.setCell ⟨gb273, 0, none⟩ (.int .i64 t260)).setCell ⟨gb273, 1, none⟩ (.int .i64 t261)).setCell ⟨gb273, 2, none⟩ (.slice Ao59 t262.length co59)).setCell ⟨gb273, 3, none⟩ (.slice Ao60 t265.length co60)).setCell ⟨gb273, 4, none⟩ (.slice Ao61 t268.length co61)).setCell ⟨gb273, 5, none⟩ (.bool t271))) := ⟨hB_ w⟩
        (try clear HO_5)
        (try clear HO264)
        (try clear HO267)
        (try clear HO270)
        (try clear BK256)
        (try clear BK257)
        (try clear BK259)
        (try clear BK273)
        (try clear HB)
        generalize ((((((w54.setCell ⟨gb273, 0, none⟩ (.int .i64 t260)).setCell ⟨gb273, 1, none⟩ (.int .i64 t261)).setCell ⟨gb273, 2, none⟩ (.slice Ao59 t262.length co59)).setCell ⟨gb273, 3, none⟩ (.slice Ao60 t265.length co60)).setCell ⟨gb273, 4, none⟩ (.slice Ao61 t268.length co61)).setCell ⟨gb273, 5, none⟩ (.bool t271)) = w62 at n0_ n1_ n2_ n3_ n4_ n5_ n6_ n7_ n8_ ⊢
        have HO_5 := n0_
        have HO264 := n1_
        have HO267 := n2_
        have HO270 := n3_
        have BK256 := n4_
        have BK257 := n5_
        have BK259 := n6_
        have BK273 := n7_
        have HB := n8_
        clear n0_ n1_ n2_ n3_ n4_ n5_ n6_ n7_ n8_; replace HO_5 := A_ (Kd.N_drew HO_5.out); replace HO264 := A_ (Kd.V_drew HO264.out); replace HO267 := A_ (Kd.V_drew HO267.out); replace HO270 := A_ (Kd.V_drew HO270.out); replace BK256 := A_ (blk_drew BK256.out); replace BK257 := A_ (blk_drew BK257.out); replace BK259 := A_ (blk_drew BK259.out); replace BK273 := A_ (blk_drew BK273.out); replace HB := A_ (below_drew1 HB.out)
        refine start_ (n := 10) (S := fun w' => w'.cell? ⟨gb273, 0, none⟩ = some (.int .i64 t260) ∧ w'.cell? ⟨gb273, 1, none⟩ = some (.int .i64 t261) ∧ w'.cell? ⟨gb273, 2, none⟩ = some (.slice Ao59 t262.length co59) ∧ w'.cell? ⟨gb273, 3, none⟩ = some (.slice Ao60 t265.length co60) ∧ w'.cell? ⟨gb273, 4, none⟩ = some (.slice Ao61 t268.length co61) ∧ w'.cell? ⟨gb273, 5, none⟩ = some (.bool t271) ∧ w'.cell? ⟨gb259, 0, none⟩ = some (.string ((rd_T41 l0_1 x6_1).f0)) ∧ w'.cell? ⟨gb259, 1, none⟩ = some (.string ((rd_T41 l0_1 x6_1).f1)) ∧ w'.cell? ⟨gb259, 2, none⟩ = some (.string ((rd_T41 l0_1 x6_1).f2))) (ds := []) #[false, false, false, false, false, false, false, false, false, false] (by kernel_rfl) rfl rfl ⟨(blk_cell BK273.out 0).trans rfl, (blk_cell BK273.out 1).trans rfl, (blk_cell BK273.out 2).trans rfl, (blk_cell BK273.out 3).trans rfl, (blk_cell BK273.out 4).trans rfl, (blk_cell BK273.out 5).trans rfl, (blk_cell BK259.out 0).trans rfl, (blk_cell BK259.out 1).trans rfl, (blk_cell BK259.out 2).trans rfl⟩ (fun hHeld => ?_); refine with_tabW tallystickref16_Find.tab8 tallystickref16_Find.bits8 (fun HT_ HW_ => ?_)
        generalize w62.drew = w63 at HO_5 HO264 HO267 HO270 BK256 BK257 BK259 BK273 HB hHeld ⊢
        refine pure_ (i := 0) (N := some 39) (v := ?_) (a' := ?_) #[true, false, false, false, false, false, false, false, false, false] rfl rfl (any_of HT_.out (by kernel_rfl)) (fun _ _ _ h => h) (Or.inl ⟨by rfl, ?_⟩) ?_ ?_
        rotate_left
        ·intro w'
         go_simp
         with_reducible rfl
        rotate_left
        ·simp only [Act.put, List.setIfInBounds_toArray, List.set_cons_zero, List.set_cons_succ, i64_w, i32_w]
         rfl
        refine pure_ (i := 1) (N := some 40) (v := ?_) (a' := ?_) #[true, true, false, false, false, false, false, false, false, false] rfl rfl (any_of HT_.out (by kernel_rfl)) (fun _ _ _ h => h) (Or.inl ⟨by rfl, ?_⟩) ?_ ?_
        rotate_left
        ·intro w'
         go_simp
         with_reducible rfl
        rotate_left
        ·simp only [Act.put, List.setIfInBounds_toArray, List.set_cons_zero, List.set_cons_succ, i64_w, i32_w]
         rfl
        refine pure_ (i := 2) (N := some 41) (v := ?_) (a' := ?_) #[true, true, true, false, false, false, false, false, false, false] rfl rfl (any_of HT_.out (by kernel_rfl)) (fun _ _ _ h => h) (Or.inl ⟨by rfl, ?_⟩) ?_ ?_
        rotate_left
        ·intro w'
         go_simp
         with_reducible rfl
        rotate_left
        ·simp only [Act.put, List.setIfInBounds_toArray, List.set_cons_zero, List.set_cons_succ, i64_w, i32_w]
         rfl
        refine pure_ (i := 3) (N := some 42) (v := ?_) (a' := ?_) #[true, true, true, true, false, false, false, false, false, false] rfl rfl (any_of HT_.out (by kernel_rfl)) (fun _ _ _ h => h) (Or.inl ⟨by rfl, ?_⟩) ?_ ?_
        rotate_left
        ·intro w'
         go_simp
         with_reducible rfl
        rotate_left
        ·simp only [Act.put, List.setIfInBounds_toArray, List.set_cons_zero, List.set_cons_succ, i64_w, i32_w]
         rfl
        refine pure_ (i := 6) (N := some 45) (v := ?_) (a' := ?_) #[true, true, true, true, false, false, true, false, false, false] rfl rfl (any_of HT_.out (by kernel_rfl)) (fun _ _ _ h => h) (Or.inl ⟨by rfl, ?_⟩) ?_ ?_
        rotate_left
        ·intro w'
         go_simp
         with_reducible rfl
        rotate_left
        ·simp only [Act.put, List.setIfInBounds_toArray, List.set_cons_zero, List.set_cons_succ, i64_w, i32_w]
         rfl
        refine take_ (i := 4) (N := some 43) (v := ?_) (a' := ?_) #[true, true, true, true, true, false, true, false, false, false] rfl rfl (take_ofW HT_.out HW_.out (by kernel_rfl)) (fun _ _ _ h => h) (Or.inl ⟨by rfl, ?_⟩) hHeld ?_ ?_
        rotate_left
        ·rintro w' ⟨s0, s1, s2, s3, s4, s5, s6, s7, s8⟩
         go_simp
         with_reducible rfl
        rotate_left
        ·simp only [Act.put, List.setIfInBounds_toArray, List.set_cons_zero, List.set_cons_succ, i64_w, i32_w]
         rfl
        refine take_ (i := 7) (N := some 46) (v := ?_) (a' := ?_) #[true, true, true, true, true, false, true, true, false, false] rfl rfl (take_ofW HT_.out HW_.out (by kernel_rfl)) (fun _ _ _ h => h) (Or.inl ⟨by rfl, ?_⟩) hHeld ?_ ?_
        rotate_left
        ·rintro w' ⟨s0, s1, s2, s3, s4, s5, s6, s7, s8⟩
         go_simp
         with_reducible rfl
        rotate_left
        ·simp only [Act.put, List.setIfInBounds_toArray, List.set_cons_zero, List.set_cons_succ, i64_w, i32_w]
         rfl
        refine one_ (i := 5) (N := some 44) #[true, true, true, true, true, true, true, true, false, false] rfl rfl (one_of HT_.out (by kernel_rfl)) (by decide) (fun K hK => ?_)
        refine goes_ Tryd.func19 (by kernel_rfl) rfl #[.agg #[.int .i64 t260, .int .i64 t261]] (by rfl) rfl rfl (by (try simp only [List.map_toArray, List.map_cons, List.map_nil]); first | done | rfl | (simp only [List.length_drop, List.length_take]; rfl)) ?_
        with_reducible refine (tallystickref16_Name.calls kj6 t260 t261 t274 _ A26.out).mono ?_
        rintro e w64 ⟨rfl, hb⟩
        refine ⟨_, rfl, ?_⟩
        replace HO_5 := A_ (Kd.N_below (n_ HO_5) hb); replace HO264 := A_ (Kd.V_below (v_ HO264) hb); replace HO267 := A_ (Kd.V_below (v_ HO267) hb); replace HO270 := A_ (Kd.V_below (v_ HO270) hb); replace BK256 := A_ (blk_below (g := gb256) (b_ BK256) hb); replace BK257 := A_ (blk_below (g := gb257) (b_ BK257) hb); replace BK259 := A_ (blk_below (g := gb259) (b_ BK259) hb); replace BK273 := A_ (blk_below (g := gb273) (b_ BK273) hb); replace HB := A_ (below_step (hB_ w) hb)
        (try clear hb)
        (try clear hb2)
        (try clear hk)
        (try clear hi)
        refine hK.out _ _ ⟨(blk_cell BK273.out 0).trans rfl, (blk_cell BK273.out 1).trans rfl, (blk_cell BK273.out 2).trans rfl, (blk_cell BK273.out 3).trans rfl, (blk_cell BK273.out 4).trans rfl, (blk_cell BK273.out 5).trans rfl, (blk_cell BK259.out 0).trans rfl, (blk_cell BK259.out 1).trans rfl, (blk_cell BK259.out 2).trans rfl⟩ (fun hHeld => ?_)
        clear hK K
        refine norm_ (a' := ?_) ?_ ?_
        rotate_left
        ·show Act.put _ (some 44) _ = _
         simp only [Act.put, List.setIfInBounds_toArray, List.set_cons_zero, List.set_cons_succ, i64_w, i32_w]
         rfl
        refine pure_ (i := 8) (N := some 47) (v := ?_) (a' := ?_) #[true, true, true, true, true, true, true, true, true, false] rfl rfl (any_of HT_.out (by kernel_rfl)) (fun _ _ _ h => h) (Or.inl ⟨by rfl, ?_⟩) ?_ ?_
        rotate_left
        ·intro w'
         go_simp
         with_reducible rfl
        rotate_left
        ·simp only [Act.put, List.setIfInBounds_toArray, List.set_cons_zero, List.set_cons_succ, i64_w, i32_w]
         rfl
        refine pure_ (i := 9) (N := some 48) (v := ?_) (a' := ?_) #[true, true, true, true, true, true, true, true, true, true] rfl rfl (any_of HT_.out (by kernel_rfl)) (fun _ _ _ h => h) (Or.inl ⟨by rfl, ?_⟩) ?_ ?_
        rotate_left
        ·intro w'
         go_simp
         with_reducible rfl
        rotate_left
        ·simp only [Act.put, List.setIfInBounds_toArray, List.set_cons_zero, List.set_cons_succ, i64_w, i32_w]
         rfl
        refine done_ (done_of HT_.out (by kernel_rfl)) ?_
        try go_wp2
        go_roundg kj6
        case measure => have := HK1.out; have := HJ6.out; omega
        case rel => exact ⟨(x5_1), (wrap64 (x6_1 + 1)), (by first | rfl | (simp; done) | (simp [*]; done)), H', ⟨by have := HK1.out; have := HJ6.out; omega⟩, ⟨Kd.N_mono (n_ HO_5) (fun _ hk => ⟨hk.1, ⟨hk.2.1, hk.2.2.1⟩⟩)⟩, ⟨b_ BK256⟩, ⟨b_ BK257⟩, ⟨hB_ w⟩⟩
       rw [if_neg c25] at H
       have c25b0 : (t272 == 0) = false := beq_eq_false_iff_ne.mpr c25
       have c25b1 : (t272 != 0) = true := bne_iff_ne.mpr c25
       have H' := A_ H
       clear H; have hnb65 := NB259_256.out; have hnc65 := NB256_259.out; have hnb66 := NB259_257.out; have hnc66 := NB257_259.out; obtain ⟨hcz67_0, hcz67_1, hcz67_2, hfz67_0, hfz67_1, hfz67_2⟩ := cf3_ BK259; have hnb68 := NB257_256.out; have hnc68 := NB256_257.out; obtain ⟨hcz69_0, hcz69_1, hcz69_2, hfz69_0, hfz69_1, hfz69_2⟩ := cf3_ BK257
       try go_wp2_with (first | ((with_reducible refine gate_callee (f := 18) rfl ?_); refine goesL_ (some 36) rfl rfl Tryd.func18 (by kernel_rfl) rfl #[.string ((rd_T41 l0_1 x6_1).f1), .agg #[.int .i64 a1_0, .int .i64 a1_1, .int .i64 a1_2]] rfl (by (try simp only [List.map_toArray, List.map_cons, List.map_nil]); first | done | rfl | (simp only [List.length_drop, List.length_take]; rfl)) ?_; (with_reducible refine (tallystickref14_Of.calls ((rd_T41 l0_1 x6_1).f1) a1_0 a1_1 a1_2 t260 t261 t262 t265 t268 t271 t272 _ A24.out).mono ?_); rintro e w70 ⟨v263, v266, v269, rfl, ho0, ho1, ho2, hb⟩; refine ⟨_, rfl, ?_⟩; have HO264 := A_ (Kd.V_lower (Kd.V_mono (ok' := fun k_ => (w.heap.size ≤ k_) ∧ some k_ ≠ (u5 : Value).ownBlock ∧ k_ ≠ gb256 ∧ k_ ≠ gb257 ∧ k_ ≠ gb259) ho0 (fun k_ hk_ => ⟨(Nat.le_trans (below_size (hB_ w)) hk_), (Kd.fresh' (Kd.N_lt (n_ HO_5)) k_ hk_), (Kd.freshB (g := gb256) (b_ BK256) k_ hk_), (Kd.freshB (g := gb257) (b_ BK257) k_ hk_), (Kd.freshB (g := gb259) (b_ BK259) k_ hk_)⟩)) (below_size (hB_ w))); have HO267 := A_ (Kd.V_lower (Kd.V_mono (ok' := fun k_ => (w.heap.size ≤ k_) ∧ some k_ ≠ (u5 : Value).ownBlock ∧ k_ ≠ gb256 ∧ k_ ≠ gb257 ∧ k_ ≠ gb259) ho1 (fun k_ hk_ => ⟨(Nat.le_trans (below_size (hB_ w)) hk_), (Kd.fresh' (Kd.N_lt (n_ HO_5)) k_ hk_), (Kd.freshB (g := gb256) (b_ BK256) k_ hk_), (Kd.freshB (g := gb257) (b_ BK257) k_ hk_), (Kd.freshB (g := gb259) (b_ BK259) k_ hk_)⟩)) (below_size (hB_ w))); have HO270 := A_ (Kd.V_lower (Kd.V_mono (ok' := fun k_ => (w.heap.size ≤ k_) ∧ some k_ ≠ (u5 : Value).ownBlock ∧ k_ ≠ gb256 ∧ k_ ≠ gb257 ∧ k_ ≠ gb259) ho2 (fun k_ hk_ => ⟨(Nat.le_trans (below_size (hB_ w)) hk_), (Kd.fresh' (Kd.N_lt (n_ HO_5)) k_ hk_), (Kd.freshB (g := gb256) (b_ BK256) k_ hk_), (Kd.freshB (g := gb257) (b_ BK257) k_ hk_), (Kd.freshB (g := gb259) (b_ BK259) k_ hk_)⟩)) (below_size (hB_ w))); replace HO_5 := A_ (Kd.N_below (n_ HO_5) hb); replace BK256 := A_ (blk_below (g := gb256) (b_ BK256) hb); replace BK257 := A_ (blk_below (g := gb257) (b_ BK257) hb); replace BK259 := A_ (blk_below (g := gb259) (b_ BK259) hb); replace HB := A_ (below_step (hB_ w) hb); (try clear hb); (try clear hb2); (try clear hk); (try clear hi); (try clear ho0); (try clear ho1); (try clear ho2)) | ((with_reducible refine gate_dst (N := 8) rfl ?_); refine box_event ?hg (N := 8) ?hd (cs := #[.int .i64 0, .int .i64 0, .slice none 0 0, .slice none 0 0, .slice none 0 0, .bool false]) (t := 45) ?hr ?_; (case hd => rfl); (case hg => rfl); (case hr => first | (go_simp; done) | (go_simp; rfl)); intro gb273 hg w71 hbox hb; replace HO_5 := A_ (Kd.N_below (Kd.N_elderB (n_ HO_5) gb273 (Nat.le_of_eq hg.symm)) hb); replace HO264 := A_ (Kd.V_below (Kd.V_elderB (v_ HO264) gb273 (Nat.le_of_eq hg.symm)) hb); replace HO267 := A_ (Kd.V_below (Kd.V_elderB (v_ HO267) gb273 (Nat.le_of_eq hg.symm)) hb); replace HO270 := A_ (Kd.V_below (Kd.V_elderB (v_ HO270) gb273 (Nat.le_of_eq hg.symm)) hb); have BK273 := A_ hbox; have GW273 := A_ ((by rw [hg]; exact (below_size (hB_ w)) : w.heap.size ≤ gb273)); have GE273 := A_ ((by rw [hg]; exact (below_size (hB_ w)) : w.heap.size ≤ gb273)); replace HB := A_ (below_step (hB_ w) hb); have NB256_273 := A_ ((by rw [hg]; exact Nat.ne_of_lt (blk_lt (g := gb256) (b_ BK256)) : gb256 ≠ gb273)); have NB273_256 := A_ ((by rw [hg]; exact Nat.ne_of_gt (blk_lt (g := gb256) (b_ BK256)) : gb273 ≠ gb256)); replace BK256 := A_ (blk_below (g := gb256) (b_ BK256) hb); have NB257_273 := A_ ((by rw [hg]; exact Nat.ne_of_lt (blk_lt (g := gb257) (b_ BK257)) : gb257 ≠ gb273)); have NB273_257 := A_ ((by rw [hg]; exact Nat.ne_of_gt (blk_lt (g := gb257) (b_ BK257)) : gb273 ≠ gb257)); replace BK257 := A_ (blk_below (g := gb257) (b_ BK257) hb); have NB259_273 := A_ ((by rw [hg]; exact Nat.ne_of_lt (blk_lt (g := gb259) (b_ BK259)) : gb259 ≠ gb273)); have NB273_259 := A_ ((by rw [hg]; exact Nat.ne_of_gt (blk_lt (g := gb259) (b_ BK259)) : gb273 ≠ gb259)); replace BK259 := A_ (blk_below (g := gb259) (b_ BK259) hb); clear hb hbox hg; have hnb72 := NB273_256.out; have hnc72 := NB256_273.out; have hnb73 := NB273_257.out; have hnc73 := NB257_273.out; have hnb74 := NB273_259.out; have hnc74 := NB259_273.out; obtain ⟨hcz75_0, hcz75_1, hcz75_2, hcz75_3, hcz75_4, hcz75_5, hfz75_0, hfz75_1, hfz75_2, hfz75_3, hfz75_4, hfz75_5⟩ := cf6_ BK273; obtain ⟨Ao76, co76, eo76⟩ := Kd.V_slice HO264.out; subst eo76; obtain ⟨Ao77, co77, eo77⟩ := Kd.V_slice HO267.out; subst eo77; obtain ⟨Ao78, co78, eo78⟩ := Kd.V_slice HO270.out; subst eo78))
       have n0_ : AsC (Kd.N k45 45 ((((((w71.setCell ⟨gb273, 0, none⟩ (.int .i64 t260)).setCell ⟨gb273, 1, none⟩ (.int .i64 t261)).setCell ⟨gb273, 2, none⟩ (.slice Ao76 t262.length co76)).setCell ⟨gb273, 3, none⟩ (.slice Ao77 t265.length co77)).setCell ⟨gb273, 4, none⟩ (.slice Ao78 t268.length co78)).setCell ⟨gb273, 5, none⟩ (.bool t271)) w.heap.size (fun k_ => (w.heap.size ≤ k_) ∧ k_ ≠ gb256 ∧ k_ ≠ gb257 ∧ k_ ≠ gb259 ∧ k_ ≠ gb273) u5 x5_1) := ⟨by (with_reducible repeat (first|apply nA_|apply nN_|apply nD_)); exact Kd.N_mono (Kd.N_far (p := ⟨gb273, 5, none⟩) (Kd.N_far (p := ⟨gb273, 4, none⟩) (Kd.N_far (p := ⟨gb273, 3, none⟩) (Kd.N_far (p := ⟨gb273, 2, none⟩) (Kd.N_far (p := ⟨gb273, 1, none⟩) (Kd.N_far (p := ⟨gb273, 0, none⟩) (Kd.N_mono HO_5.out (fun k_ hk => (⟨hk, hk.2⟩ : _ ∧ k_ ≠ gb273))) (fun _ hk => hk.2) (.int .i64 t260)) (fun _ hk => hk.2) (.int .i64 t261)) (fun _ hk => hk.2) (.slice Ao76 t262.length co76)) (fun _ hk => hk.2) (.slice Ao77 t265.length co77)) (fun _ hk => hk.2) (.slice Ao78 t268.length co78)) (fun _ hk => hk.2) (.bool t271)) (fun _ hk => ⟨hk.1.1.1, ⟨hk.1.1.2.1, ⟨hk.1.1.2.2.1, ⟨hk.1.1.2.2.2, hk.1.2⟩⟩⟩⟩)⟩
       have n1_ : AsC (Kd.V (Kd.int .u64) 79 ((((((w71.setCell ⟨gb273, 0, none⟩ (.int .i64 t260)).setCell ⟨gb273, 1, none⟩ (.int .i64 t261)).setCell ⟨gb273, 2, none⟩ (.slice Ao76 t262.length co76)).setCell ⟨gb273, 3, none⟩ (.slice Ao77 t265.length co77)).setCell ⟨gb273, 4, none⟩ (.slice Ao78 t268.length co78)).setCell ⟨gb273, 5, none⟩ (.bool t271)) w.heap.size (fun k_ => (w.heap.size ≤ k_) ∧ some k_ ≠ (u5 : Value).ownBlock ∧ k_ ≠ gb256 ∧ k_ ≠ gb257 ∧ k_ ≠ gb259 ∧ k_ ≠ gb273) (.slice Ao76 t262.length co76) t262) := ⟨by (with_reducible repeat (first|apply vA_|apply vN_|apply vD_)); exact Kd.V_mono (Kd.V_far (p := ⟨gb273, 5, none⟩) (Kd.V_far (p := ⟨gb273, 4, none⟩) (Kd.V_far (p := ⟨gb273, 3, none⟩) (Kd.V_far (p := ⟨gb273, 2, none⟩) (Kd.V_far (p := ⟨gb273, 1, none⟩) (Kd.V_far (p := ⟨gb273, 0, none⟩) (Kd.V_mono HO264.out (fun k_ hk => (⟨hk, hk.2⟩ : _ ∧ k_ ≠ gb273))) (fun _ hk => hk.2) (.int .i64 t260)) (fun _ hk => hk.2) (.int .i64 t261)) (fun _ hk => hk.2) (.slice Ao76 t262.length co76)) (fun _ hk => hk.2) (.slice Ao77 t265.length co77)) (fun _ hk => hk.2) (.slice Ao78 t268.length co78)) (fun _ hk => hk.2) (.bool t271)) (fun _ hk => ⟨hk.1.1.1, ⟨hk.1.1.2.1, ⟨hk.1.1.2.2.1, ⟨hk.1.1.2.2.2.1, ⟨hk.1.1.2.2.2.2, hk.1.2⟩⟩⟩⟩⟩)⟩
       have n2_ : AsC (Kd.V (Kd.int .u64) 79 ((((((w71.setCell ⟨gb273, 0, none⟩ (.int .i64 t260)).setCell ⟨gb273, 1, none⟩ (.int .i64 t261)).setCell ⟨gb273, 2, none⟩ (.slice Ao76 t262.length co76)).setCell ⟨gb273, 3, none⟩ (.slice Ao77 t265.length co77)).setCell ⟨gb273, 4, none⟩ (.slice Ao78 t268.length co78)).setCell ⟨gb273, 5, none⟩ (.bool t271)) w.heap.size (fun k_ => (w.heap.size ≤ k_) ∧ some k_ ≠ (u5 : Value).ownBlock ∧ k_ ≠ gb256 ∧ k_ ≠ gb257 ∧ k_ ≠ gb259 ∧ k_ ≠ gb273) (.slice Ao77 t265.length co77) t265) := ⟨by (with_reducible repeat (first|apply vA_|apply vN_|apply vD_)); exact Kd.V_mono (Kd.V_far (p := ⟨gb273, 5, none⟩) (Kd.V_far (p := ⟨gb273, 4, none⟩) (Kd.V_far (p := ⟨gb273, 3, none⟩) (Kd.V_far (p := ⟨gb273, 2, none⟩) (Kd.V_far (p := ⟨gb273, 1, none⟩) (Kd.V_far (p := ⟨gb273, 0, none⟩) (Kd.V_mono HO267.out (fun k_ hk => (⟨hk, hk.2⟩ : _ ∧ k_ ≠ gb273))) (fun _ hk => hk.2) (.int .i64 t260)) (fun _ hk => hk.2) (.int .i64 t261)) (fun _ hk => hk.2) (.slice Ao76 t262.length co76)) (fun _ hk => hk.2) (.slice Ao77 t265.length co77)) (fun _ hk => hk.2) (.slice Ao78 t268.length co78)) (fun _ hk => hk.2) (.bool t271)) (fun _ hk => ⟨hk.1.1.1, ⟨hk.1.1.2.1, ⟨hk.1.1.2.2.1, ⟨hk.1.1.2.2.2.1, ⟨hk.1.1.2.2.2.2, hk.1.2⟩⟩⟩⟩⟩)⟩
       have n3_ : AsC (Kd.V (Kd.int .u64) 79 ((((((w71.setCell ⟨gb273, 0, none⟩ (.int .i64 t260)).setCell ⟨gb273, 1, none⟩ (.int .i64 t261)).setCell ⟨gb273, 2, none⟩ (.slice Ao76 t262.length co76)).setCell ⟨gb273, 3, none⟩ (.slice Ao77 t265.length co77)).setCell ⟨gb273, 4, none⟩ (.slice Ao78 t268.length co78)).setCell ⟨gb273, 5, none⟩ (.bool t271)) w.heap.size (fun k_ => (w.heap.size ≤ k_) ∧ some k_ ≠ (u5 : Value).ownBlock ∧ k_ ≠ gb256 ∧ k_ ≠ gb257 ∧ k_ ≠ gb259 ∧ k_ ≠ gb273) (.slice Ao78 t268.length co78) t268) := ⟨by (with_reducible repeat (first|apply vA_|apply vN_|apply vD_)); exact Kd.V_mono (Kd.V_far (p := ⟨gb273, 5, none⟩) (Kd.V_far (p := ⟨gb273, 4, none⟩) (Kd.V_far (p := ⟨gb273, 3, none⟩) (Kd.V_far (p := ⟨gb273, 2, none⟩) (Kd.V_far (p := ⟨gb273, 1, none⟩) (Kd.V_far (p := ⟨gb273, 0, none⟩) (Kd.V_mono HO270.out (fun k_ hk => (⟨hk, hk.2⟩ : _ ∧ k_ ≠ gb273))) (fun _ hk => hk.2) (.int .i64 t260)) (fun _ hk => hk.2) (.int .i64 t261)) (fun _ hk => hk.2) (.slice Ao76 t262.length co76)) (fun _ hk => hk.2) (.slice Ao77 t265.length co77)) (fun _ hk => hk.2) (.slice Ao78 t268.length co78)) (fun _ hk => hk.2) (.bool t271)) (fun _ hk => ⟨hk.1.1.1, ⟨hk.1.1.2.1, ⟨hk.1.1.2.2.1, ⟨hk.1.1.2.2.2.1, ⟨hk.1.1.2.2.2.2, hk.1.2⟩⟩⟩⟩⟩)⟩
       have n4_ : AsC (((((((w71.setCell ⟨gb273, 0, none⟩ (.int .i64 t260)).setCell ⟨gb273, 1, none⟩ (.int .i64 t261)).setCell ⟨gb273, 2, none⟩ (.slice Ao76 t262.length co76)).setCell ⟨gb273, 3, none⟩ (.slice Ao77 t265.length co77)).setCell ⟨gb273, 4, none⟩ (.slice Ao78 t268.length co78)).setCell ⟨gb273, 5, none⟩ (.bool t271)).heap[gb256]? = some (.cells #[.int .i64 a0_0, .slice (some ad258) l0_1.length c0_1] 29 (0, 0))) := ⟨by (with_reducible repeat (first|apply bA_|apply bN_|apply bD_)); refine blk_far ?_ NB256_273.out _; (with_reducible repeat (first|apply bA_|apply bN_|apply bD_)); refine blk_far ?_ NB256_273.out _; (with_reducible repeat (first|apply bA_|apply bN_|apply bD_)); refine blk_far ?_ NB256_273.out _; (with_reducible repeat (first|apply bA_|apply bN_|apply bD_)); refine blk_far ?_ NB256_273.out _; (with_reducible repeat (first|apply bA_|apply bN_|apply bD_)); refine blk_far ?_ NB256_273.out _; (with_reducible repeat (first|apply bA_|apply bN_|apply bD_)); refine blk_far ?_ NB256_273.out _; (with_reducible repeat (first|apply bA_|apply bN_|apply bD_)); exact BK256.out⟩
       have n5_ : AsC (((((((w71.setCell ⟨gb273, 0, none⟩ (.int .i64 t260)).setCell ⟨gb273, 1, none⟩ (.int .i64 t261)).setCell ⟨gb273, 2, none⟩ (.slice Ao76 t262.length co76)).setCell ⟨gb273, 3, none⟩ (.slice Ao77 t265.length co77)).setCell ⟨gb273, 4, none⟩ (.slice Ao78 t268.length co78)).setCell ⟨gb273, 5, none⟩ (.bool t271)).heap[gb257]? = some (.cells #[.int .i64 a1_0, .int .i64 a1_1, .int .i64 a1_2] 31 (0, 0))) := ⟨by (with_reducible repeat (first|apply bA_|apply bN_|apply bD_)); refine blk_far ?_ NB257_273.out _; (with_reducible repeat (first|apply bA_|apply bN_|apply bD_)); refine blk_far ?_ NB257_273.out _; (with_reducible repeat (first|apply bA_|apply bN_|apply bD_)); refine blk_far ?_ NB257_273.out _; (with_reducible repeat (first|apply bA_|apply bN_|apply bD_)); refine blk_far ?_ NB257_273.out _; (with_reducible repeat (first|apply bA_|apply bN_|apply bD_)); refine blk_far ?_ NB257_273.out _; (with_reducible repeat (first|apply bA_|apply bN_|apply bD_)); refine blk_far ?_ NB257_273.out _; (with_reducible repeat (first|apply bA_|apply bN_|apply bD_)); exact BK257.out⟩
       have n6_ : AsC (((((((w71.setCell ⟨gb273, 0, none⟩ (.int .i64 t260)).setCell ⟨gb273, 1, none⟩ (.int .i64 t261)).setCell ⟨gb273, 2, none⟩ (.slice Ao76 t262.length co76)).setCell ⟨gb273, 3, none⟩ (.slice Ao77 t265.length co77)).setCell ⟨gb273, 4, none⟩ (.slice Ao78 t268.length co78)).setCell ⟨gb273, 5, none⟩ (.bool t271)).heap[gb259]? = some (.cells #[.string ((rd_T41 l0_1 x6_1).f0), .string ((rd_T41 l0_1 x6_1).f1), .string ((rd_T41 l0_1 x6_1).f2)] 41 (0, 0))) := ⟨by (with_reducible repeat (first|apply bA_|apply bN_|apply bD_)); refine blk_far ?_ NB259_273.out _; (with_reducible repeat (first|apply bA_|apply bN_|apply bD_)); refine blk_far ?_ NB259_273.out _; (with_reducible repeat (first|apply bA_|apply bN_|apply bD_)); refine blk_far ?_ NB259_273.out _; (with_reducible repeat (first|apply bA_|apply bN_|apply bD_)); refine blk_far ?_ NB259_273.out _; (with_reducible repeat (first|apply bA_|apply bN_|apply bD_)); refine blk_far ?_ NB259_273.out _; (with_reducible repeat (first|apply bA_|apply bN_|apply bD_)); refine blk_far ?_ NB259_273.out _; (with_reducible repeat (first|apply bA_|apply bN_|apply bD_)); exact BK259.out⟩
       have n7_ : AsC (((((((w71.setCell ⟨gb273, 0, none⟩ (.int .i64 t260)).setCell ⟨gb273, 1, none⟩ (.int .i64 t261)).setCell ⟨gb273, 2, none⟩ (.slice Ao76 t262.length co76)).setCell ⟨gb273, 3, none⟩ (.slice Ao77 t265.length co77)).setCell ⟨gb273, 4, none⟩ (.slice Ao78 t268.length co78)).setCell ⟨gb273, 5, none⟩ (.bool t271)).heap[gb273]? = some (.cells #[.int .i64 t260, .int .i64 t261, .slice Ao76 t262.length co76, .slice Ao77 t265.length co77, .slice Ao78 t268.length co78, .bool t271] 45 (0, 0))) := ⟨by (with_reducible repeat (first|apply bA_|apply bN_|apply bD_)); refine blk_put (cs := #[.int .i64 t260, .int .i64 t261, .slice Ao76 t262.length co76, .slice Ao77 t265.length co77, .slice Ao78 t268.length co78, .bool false]) ?_ 5 _ rfl; (with_reducible repeat (first|apply bA_|apply bN_|apply bD_)); refine blk_put (cs := #[.int .i64 t260, .int .i64 t261, .slice Ao76 t262.length co76, .slice Ao77 t265.length co77, .slice none 0 0, .bool false]) ?_ 4 _ rfl; (with_reducible repeat (first|apply bA_|apply bN_|apply bD_)); refine blk_put (cs := #[.int .i64 t260, .int .i64 t261, .slice Ao76 t262.length co76, .slice none 0 0, .slice none 0 0, .bool false]) ?_ 3 _ rfl; (with_reducible repeat (first|apply bA_|apply bN_|apply bD_)); refine blk_put (cs := #[.int .i64 t260, .int .i64 t261, .slice none 0 0, .slice none 0 0, .slice none 0 0, .bool false]) ?_ 2 _ rfl; (with_reducible repeat (first|apply bA_|apply bN_|apply bD_)); refine blk_put (cs := #[.int .i64 t260, .int .i64 0, .slice none 0 0, .slice none 0 0, .slice none 0 0, .bool false]) ?_ 1 _ rfl; (with_reducible repeat (first|apply bA_|apply bN_|apply bD_)); refine blk_put (cs := #[.int .i64 0, .int .i64 0, .slice none 0 0, .slice none 0 0, .slice none 0 0, .bool false]) ?_ 0 _ rfl; (with_reducible repeat (first|apply bA_|apply bN_|apply bD_)); exact BK273.out⟩
       have n8_ : AsC (Below w.heap.size w ((((((w71.setCell ⟨gb273, 0, none⟩ (.int .i64 t260)).setCell ⟨gb273, 1, none⟩ (.int .i64 t261)).setCell ⟨gb273, 2, none⟩ (.slice Ao76 t262.length co76)).setCell ⟨gb273, 3, none⟩ (.slice Ao77 t265.length co77)).setCell ⟨gb273, 4, none⟩ (.slice Ao78 t268.length co78)).setCell ⟨gb273, 5, none⟩ (.bool t271))) := ⟨hB_ w⟩
       (try clear HO_5)
       (try clear HO264)
       (try clear HO267)
       (try clear HO270)
       (try clear BK256)
       (try clear BK257)
       (try clear BK259)
       (try clear BK273)
       (try clear HB)
       generalize ((((((w71.setCell ⟨gb273, 0, none⟩ (.int .i64 t260)).setCell ⟨gb273, 1, none⟩ (.int .i64 t261)).setCell ⟨gb273, 2, none⟩ (.slice Ao76 t262.length co76)).setCell ⟨gb273, 3, none⟩ (.slice Ao77 t265.length co77)).setCell ⟨gb273, 4, none⟩ (.slice Ao78 t268.length co78)).setCell ⟨gb273, 5, none⟩ (.bool t271)) = w79 at n0_ n1_ n2_ n3_ n4_ n5_ n6_ n7_ n8_ ⊢
       have HO_5 := n0_
       have HO264 := n1_
       have HO267 := n2_
       have HO270 := n3_
       have BK256 := n4_
       have BK257 := n5_
       have BK259 := n6_
       have BK273 := n7_
       have HB := n8_
       clear n0_ n1_ n2_ n3_ n4_ n5_ n6_ n7_ n8_; replace HO_5 := A_ (Kd.N_drew HO_5.out); replace HO264 := A_ (Kd.V_drew HO264.out); replace HO267 := A_ (Kd.V_drew HO267.out); replace HO270 := A_ (Kd.V_drew HO270.out); replace BK256 := A_ (blk_drew BK256.out); replace BK257 := A_ (blk_drew BK257.out); replace BK259 := A_ (blk_drew BK259.out); replace BK273 := A_ (blk_drew BK273.out); replace HB := A_ (below_drew1 HB.out)
       refine start_ (n := 10) (S := fun w' => True) (ds := []) #[false, false, false, false, false, false, false, false, false, false] (by kernel_rfl) rfl rfl trivial (fun hHeld => ?_); refine with_tabW tallystickref16_Find.tab8 tallystickref16_Find.bits8 (fun HT_ HW_ => ?_)
       generalize w79.drew = w80 at HO_5 HO264 HO267 HO270 BK256 BK257 BK259 BK273 HB hHeld ⊢
       refine pure_ (i := 0) (N := some 39) (v := ?_) (a' := ?_) #[true, false, false, false, false, false, false, false, false, false] rfl rfl (any_of HT_.out (by kernel_rfl)) (fun _ _ _ h => h) (Or.inl ⟨by rfl, ?_⟩) ?_ ?_
       rotate_left
       ·intro w'
        go_simp
        with_reducible rfl
       rotate_left
       ·simp only [Act.put, List.setIfInBounds_toArray, List.set_cons_zero, List.set_cons_succ, i64_w, i32_w]
        rfl
       refine pure_ (i := 1) (N := some 40) (v := ?_) (a' := ?_) #[true, true, false, false, false, false, false, false, false, false] rfl rfl (any_of HT_.out (by kernel_rfl)) (fun _ _ _ h => h) (Or.inl ⟨by rfl, ?_⟩) ?_ ?_
       rotate_left
       ·intro w'
        go_simp
        with_reducible rfl
       rotate_left
       ·simp only [Act.put, List.setIfInBounds_toArray, List.set_cons_zero, List.set_cons_succ, i64_w, i32_w]
        rfl
       refine pure_ (i := 2) (N := some 41) (v := ?_) (a' := ?_) #[true, true, true, false, false, false, false, false, false, false] rfl rfl (any_of HT_.out (by kernel_rfl)) (fun _ _ _ h => h) (Or.inl ⟨by rfl, ?_⟩) ?_ ?_
       rotate_left
       ·intro w'
        go_simp
        with_reducible rfl
       rotate_left
       ·simp only [Act.put, List.setIfInBounds_toArray, List.set_cons_zero, List.set_cons_succ, i64_w, i32_w]
        rfl
       refine pure_ (i := 3) (N := some 42) (v := undef) (a' := ?_) #[true, true, true, true, false, false, false, false, false, false] rfl rfl (any_of HT_.out (by kernel_rfl)) (fun _ _ _ h => h) (Or.inr ⟨by rfl, rfl⟩) ?_ ?_
       rotate_left
       ·simp only [Act.put, List.setIfInBounds_toArray, List.set_cons_zero, List.set_cons_succ, i64_w, i32_w]
        rfl
       refine pure_ (i := 4) (N := some 43) (v := undef) (a' := ?_) #[true, true, true, true, true, false, false, false, false, false] rfl rfl (any_of HT_.out (by kernel_rfl)) (fun _ _ _ h => h) (Or.inr ⟨by rfl, rfl⟩) ?_ ?_
       rotate_left
       ·simp only [Act.put, List.setIfInBounds_toArray, List.set_cons_zero, List.set_cons_succ, i64_w, i32_w]
        rfl
       refine pure_ (i := 5) (N := some 44) (v := undef) (a' := ?_) #[true, true, true, true, true, true, false, false, false, false] rfl rfl (any_of HT_.out (by kernel_rfl)) (fun _ _ _ h => h) (Or.inr ⟨by rfl, rfl⟩) ?_ ?_
       rotate_left
       ·simp only [Act.put, List.setIfInBounds_toArray, List.set_cons_zero, List.set_cons_succ, i64_w, i32_w]
        rfl
       refine pure_ (i := 6) (N := some 45) (v := undef) (a' := ?_) #[true, true, true, true, true, true, true, false, false, false] rfl rfl (any_of HT_.out (by kernel_rfl)) (fun _ _ _ h => h) (Or.inr ⟨by rfl, rfl⟩) ?_ ?_
       rotate_left
       ·simp only [Act.put, List.setIfInBounds_toArray, List.set_cons_zero, List.set_cons_succ, i64_w, i32_w]
        rfl
       refine pure_ (i := 7) (N := some 46) (v := undef) (a' := ?_) #[true, true, true, true, true, true, true, true, false, false] rfl rfl (any_of HT_.out (by kernel_rfl)) (fun _ _ _ h => h) (Or.inr ⟨by rfl, rfl⟩) ?_ ?_
       rotate_left
       ·simp only [Act.put, List.setIfInBounds_toArray, List.set_cons_zero, List.set_cons_succ, i64_w, i32_w]
        rfl
       refine pure_ (i := 8) (N := some 47) (v := undef) (a' := ?_) #[true, true, true, true, true, true, true, true, true, false] rfl rfl (any_of HT_.out (by kernel_rfl)) (fun _ _ _ h => h) (Or.inr ⟨by rfl, rfl⟩) ?_ ?_
       rotate_left
       ·simp only [Act.put, List.setIfInBounds_toArray, List.set_cons_zero, List.set_cons_succ, i64_w, i32_w]
        rfl
       refine pure_ (i := 9) (N := some 48) (v := ?_) (a' := ?_) #[true, true, true, true, true, true, true, true, true, true] rfl rfl (any_of HT_.out (by kernel_rfl)) (fun _ _ _ h => h) (Or.inl ⟨by rfl, ?_⟩) ?_ ?_
       rotate_left
       ·intro w'
        go_simp
        with_reducible rfl
       rotate_left
       ·simp only [Act.put, List.setIfInBounds_toArray, List.set_cons_zero, List.set_cons_succ, i64_w, i32_w]
        rfl
       refine done_ (done_of HT_.out (by kernel_rfl)) ?_
       try go_wp2
       go_roundg kj6
       case measure => have := HK1.out; have := HJ6.out; omega
       case rel => exact ⟨(x5_1), (wrap64 (x6_1 + 1)), (by first | rfl | (simp; done) | (simp [*]; done)), H', ⟨by have := HK1.out; have := HJ6.out; omega⟩, ⟨Kd.N_mono (n_ HO_5) (fun _ hk => ⟨hk.1, ⟨hk.2.1, hk.2.2.1⟩⟩)⟩, ⟨b_ BK256⟩, ⟨b_ BK257⟩, ⟨hB_ w⟩⟩
    rw [if_neg c6] at H
    exact absurd H (by simp)
   rw [if_neg c5] at H
   have c5b0 : decide (x6_1 < (l0_1.length : Int)) = false := decide_eq_false c5
   clear c5
   obtain rfl := Option.some.inj H
   have hnb81 := NB256_257.out; have hnc81 := NB257_256.out
   obtain ⟨hcz82_0, hcz82_1, hfz82_0, hfz82_1⟩ := cf2_ BK256
   go_wp2
   go_ret
   exact ⟨_, by first | rfl | (simp [errW_none, errW_some] <;> rfl) | (simp [*, errW_none, errW_some] <;> rfl), Kd.N_mono (n_ HO_5) (fun _ hk => hk.1), hB_ w⟩

end Go.Proofs.YtbpobnlkfpjijaaDoorR.Pr
end
-- Pr68
section
namespace Go.Proofs.YtbpobnlkfpjijaaDoorR.Pr
open Go.RowKit Go.Proofs.YtbpobnlkfpjijaaDoorRW.PrintWords Go.Proofs.YtbpobnlkfpjijaaDoorRW.PrintLast Go.Proofs.YtbpobnlkfpjijaaDoorRW.PrintMore
attribute [local go_sem] max2_int min2_int max_two min_two max_three min_three max_four min_four   -- for this text's walks alone
set_option linter.unusedVariables false
set_option linter.unusedSimpArgs false

attribute [local go_sem] Go.Proofs.Aid.cell_set_row
theorem tallysticklaw16_KeepFinds.held0_ {W : World} {g0 g1 : Nat} {x0_0 x0_1 x1_0 x1_1 x1_2 : Value} {t0 t1 : TypeId} (h0 : AsC (W.heap[g0]? = some (.cells #[x0_0, x0_1] t0 (0, 0)))) (h1 : AsC (W.heap[g1]? = some (.cells #[x1_0, x1_1, x1_2] t1 (0, 0)))) : W.cell? ⟨g0, 0, none⟩ = some x0_0 ∧ W.cell? ⟨g0, 1, none⟩ = some x0_1 ∧ W.cell? ⟨g1, 0, none⟩ = some x1_0 ∧ W.cell? ⟨g1, 1, none⟩ = some x1_1 ∧ W.cell? ⟨g1, 2, none⟩ = some x1_2 := ⟨(blk_cell h0.out 0).trans rfl, (blk_cell h0.out 1).trans rfl, (blk_cell h1.out 0).trans rfl, (blk_cell h1.out 1).trans rfl, (blk_cell h1.out 2).trans rfl⟩
def tallysticklaw16_KeepFinds.f (k : Nat) (a0_0 : Int) (l0_1 : List (S41)) (a1_0 : Int) (a1_1 : Int) (a1_2 : Int) : Option (Bool) := (tallysticklaw16_shown.f).bind fun t280 => ((tallystickref15_Right.f k a0_0 l0_1).bind fun t281 => (if t280 = true then (if t281 = true then ((keep_Find.f k a0_0 l0_1 a1_0 a1_1 a1_2).bind fun t282 => ((tallystickref16_Find.f k a0_0 l0_1 a1_0 a1_1 a1_2).bind fun t285 => ((tallystickref16_Parts.f k t282 t285).bind fun t288 => (some t288)))) else (some true)) else (some false)))
theorem tallysticklaw16_KeepFinds.mono : ∀ a0 a1 a2 a3 a4 k, LeO (tallysticklaw16_KeepFinds.f k a0 a1 a2 a3 a4) (tallysticklaw16_KeepFinds.f (k + 1) a0 a1 a2 a3 a4) := by
 intro a0 a1 a2 a3 a4 k
 unfold tallysticklaw16_KeepFinds.f
 repeat' first
   | (with_reducible exact keep_Find.mono _ _ _ _ _ _)
   | (with_reducible exact tallystickref15_Right.mono _ _ _)
   | (with_reducible exact tallystickref16_Find.mono _ _ _ _ _ _)
   | (with_reducible exact tallystickref16_Parts.mono _ _ _)
   | (with_reducible exact LeO.refl _)
   | (with_reducible exact LeO.none _)
   | (with_reducible refine LeO.ite ?_ ?_)
   | (with_reducible refine LeO.bind ?_ (fun _ => ?_))
   | exact keep_Find.mono _ _ _ _ _ _
   | exact tallystickref15_Right.mono _ _ _
   | exact tallystickref16_Find.mono _ _ _ _ _ _
   | exact tallystickref16_Parts.mono _ _ _
   | exact LeO.none _
   | refine LeO.ite ?_ ?_
   | refine LeO.bind ?_ (fun _ => ?_)
def tallysticklaw16_KeepFinds.T3 : Bool × List (List Nat × List Nat) := (true, [([], []), ([0], [0]), ([1], [1]), ([2, 1], [1, 2]), ([3, 1, 1], [1, 3]), ([4], [4]), ([4], [4]), ([5, 6, 4, 4], [4, 5, 6]), ([4], [4]), ([4], [4]), ([8, 9, 7, 4], [4, 8, 9]), ([7, 10, 10, 4], [4, 7, 10]), ([4, 11, 1], [1, 4, 11]), ([1, 12], [1, 12]), ([13, 11, 0, 1, 2, 3, 4, 5, 6, 7, 8, 9, 10, 11, 12, 13], [13])])
def tallysticklaw16_KeepFinds.B3 : List Nat := [0, 1, 3, 7, 15, 31, 31, 127, 31, 31, 1023, 2047, 4095, 8191, 16383]
theorem tallysticklaw16_KeepFinds.tab3 : rtab .any (opsOf Tryd.f4 3) = tallysticklaw16_KeepFinds.T3 := by kernel_rfl
theorem tallysticklaw16_KeepFinds.bits3 : waitsOk tallysticklaw16_KeepFinds.T3.2 tallysticklaw16_KeepFinds.B3 = true := by kernel_rfl
set_option maxHeartbeats 8000000 in
set_option maxRecDepth 100000 in
theorem tallysticklaw16_KeepFinds.calls (k : Nat) (a0_0 : Int) (A0_1 : Option Addr) (c0_1 : Nat) (l0_1 : List (S41)) (a1_0 : Int) (a1_1 : Int) (a1_2 : Int) (r : Bool) (w : World) (hT_w : TbC w) (hr0_1 : Kd.C k41 w A0_1 l0_1.length l0_1) (hc0_1 : l0_1.length ≤ c0_1) (h : tallysticklaw16_KeepFinds.f k a0_0 l0_1 a1_0 a1_1 a1_2 = some r) :
  Calls Tryd.prog 4 #[.agg #[.int .i64 a0_0, .slice A0_1 l0_1.length c0_1], .agg #[.int .i64 a1_0, .int .i64 a1_1, .int .i64 a1_2]] w fun e w' => e = .returned (.bool r) ∧ Below w.heap.size w w' := by
 haveI := hT_w
 have hu29 := Tryd.underlying29
 have hu31 := Tryd.underlying31
 have HR0_1 := A_ hr0_1; have HC0_1 := A_ hc0_1; clear hr0_1 hc0_1; have HB := A_ (Below.refl w.heap.size w)
 have H : ((tallysticklaw16_shown.f).bind fun t280 => ((tallystickref15_Right.f k a0_0 l0_1).bind fun t281 => (if t280 = true then (if t281 = true then ((keep_Find.f k a0_0 l0_1 a1_0 a1_1 a1_2).bind fun t282 => ((tallystickref16_Find.f k a0_0 l0_1 a1_0 a1_1 a1_2).bind fun t285 => ((tallystickref16_Parts.f k t282 t285).bind fun t288 => (some t288)))) else (some true)) else (some false)))) = some r := h
 clear h
 replace H := Option.bind_eq_some_iff.mp H
 obtain ⟨t280, A30, H⟩ := H
 replace H : ((tallystickref15_Right.f k a0_0 l0_1).bind fun t281 => (if t280 = true then (if t281 = true then ((keep_Find.f k a0_0 l0_1 a1_0 a1_1 a1_2).bind fun t282 => ((tallystickref16_Find.f k a0_0 l0_1 a1_0 a1_1 a1_2).bind fun t285 => ((tallystickref16_Parts.f k t282 t285).bind fun t288 => (some t288)))) else (some true)) else (some false))) = some r := H
 have A3 := A_ A30; clear A30
 replace H := Option.bind_eq_some_iff.mp H
 obtain ⟨t281, A40, H⟩ := H
 replace H : (if t280 = true then (if t281 = true then ((keep_Find.f k a0_0 l0_1 a1_0 a1_1 a1_2).bind fun t282 => ((tallystickref16_Find.f k a0_0 l0_1 a1_0 a1_1 a1_2).bind fun t285 => ((tallystickref16_Parts.f k t282 t285).bind fun t288 => (some t288)))) else (some true)) else (some false)) = some r := H
 have A4 := A_ A40; clear A40
 by_cases c5 : t280 = true
 ·subst c5
  have H1 : (if t281 = true then ((keep_Find.f k a0_0 l0_1 a1_0 a1_1 a1_2).bind fun t282 => ((tallystickref16_Find.f k a0_0 l0_1 a1_0 a1_1 a1_2).bind fun t285 => ((tallystickref16_Parts.f k t282 t285).bind fun t288 => (some t288)))) else (some true)) = some r := by rw [if_pos rfl] at H; exact H
  clear H
  have H := H1
  clear H1
  by_cases c6 : t281 = true
  ·subst c6
   have H1 : ((keep_Find.f k a0_0 l0_1 a1_0 a1_1 a1_2).bind fun t282 => ((tallystickref16_Find.f k a0_0 l0_1 a1_0 a1_1 a1_2).bind fun t285 => ((tallystickref16_Parts.f k t282 t285).bind fun t288 => (some t288)))) = some r := by rw [if_pos rfl] at H; exact H
   clear H
   have H := H1
   clear H1
   replace H := Option.bind_eq_some_iff.mp H
   obtain ⟨t282, A70, H⟩ := H
   replace H : ((tallystickref16_Find.f k a0_0 l0_1 a1_0 a1_1 a1_2).bind fun t285 => ((tallystickref16_Parts.f k t282 t285).bind fun t288 => (some t288))) = some r := H
   have A7 := A_ A70; clear A70
   replace H := Option.bind_eq_some_iff.mp H
   obtain ⟨t285, A80, H⟩ := H
   replace H : ((tallystickref16_Parts.f k t282 t285).bind fun t288 => (some t288)) = some r := H
   have A8 := A_ A80; clear A80
   replace H := Option.bind_eq_some_iff.mp H
   obtain ⟨t288, A90, H⟩ := H
   replace H : (some t288) = some r := H
   have A9 := A_ A90; clear A90
   obtain rfl := Option.some.inj H
   go_enter Tryd.func4, Tryd.ntmps4
   try go_wp2_with (first | ((with_reducible refine gate_dst (N := 2) rfl ?_); refine box_event ?hg (N := 2) ?hd (cs := #[.int .i64 a0_0, .slice A0_1 l0_1.length c0_1]) (t := 29) ?hr ?_; (case hd => rfl); (case hg => rfl); (case hr => first | (go_simp; done) | (go_simp; rfl)); intro gb278 hg w10 hbox hb; have BK278 := A_ hbox; have GW278 := A_ ((by rw [hg]; exact (below_size (hB_ w)) : w.heap.size ≤ gb278)); have GE278 := A_ ((by rw [hg]; exact (below_size (hB_ w)) : w.heap.size ≤ gb278)); replace HB := A_ (below_step (hB_ w) hb); clear hb hbox hg) | ((with_reducible refine gate_dst (N := 3) rfl ?_); refine box_event ?hg (N := 3) ?hd (cs := #[.int .i64 a1_0, .int .i64 a1_1, .int .i64 a1_2]) (t := 31) ?hr ?_; (case hd => rfl); (case hg => rfl); (case hr => first | (go_simp; done) | (go_simp; rfl)); intro gb279 hg w11 hbox hb; have BK279 := A_ hbox; have GW279 := A_ ((by rw [hg]; exact (below_size (hB_ w)) : w.heap.size ≤ gb279)); have GE279 := A_ ((by rw [hg]; exact (below_size (hB_ w)) : w.heap.size ≤ gb279)); replace HB := A_ (below_step (hB_ w) hb); have NB278_279 := A_ ((by rw [hg]; exact Nat.ne_of_lt (blk_lt (g := gb278) (b_ BK278)) : gb278 ≠ gb279)); have NB279_278 := A_ ((by rw [hg]; exact Nat.ne_of_gt (blk_lt (g := gb278) (b_ BK278)) : gb279 ≠ gb278)); replace BK278 := A_ (blk_below (g := gb278) (b_ BK278) hb); clear hb hbox hg) | ((with_reducible refine gate_callee (f := 5) rfl ?_); refine goesL_ (some 7) rfl rfl Tryd.func5 (by kernel_rfl) rfl #[] rfl (by (try simp only [List.map_toArray, List.map_cons, List.map_nil]); first | done | rfl | (simp only [List.length_drop, List.length_take]; rfl)) ?_; (with_reducible refine (tallysticklaw16_shown.calls  true _ (tbc_at w) A3.out).mono ?_); rintro e w12 ⟨rfl, hb⟩; refine ⟨_, rfl, ?_⟩; replace BK278 := A_ (blk_below (g := gb278) (b_ BK278) hb); replace BK279 := A_ (blk_below (g := gb279) (b_ BK279) hb); replace HB := A_ (below_step (hB_ w) hb); (try clear hb); (try clear hb2); (try clear hk); (try clear hi); have hnb13 := NB278_279.out; have hnc13 := NB279_278.out; obtain ⟨hcz14_0, hcz14_1, hfz14_0, hfz14_1⟩ := cf2_ BK278) | ((with_reducible refine gate_callee (f := 7) rfl ?_); refine goesL_ (some 9) rfl rfl Tryd.func7 (by kernel_rfl) rfl #[.agg #[.int .i64 a0_0, .slice A0_1 l0_1.length c0_1]] rfl (by (try simp only [List.map_toArray, List.map_cons, List.map_nil]); first | done | rfl | (simp only [List.length_drop, List.length_take]; rfl)) ?_; (with_reducible refine (tallystickref15_Right.calls k a0_0 _ _ l0_1 true _ ?side1 ?side2 A4.out).mono ?_); (case side1 => repeat (first | exact (Kd.C_below HR0_1.out HB.out) | (with_reducible refine Kd.C_alloc ?_ _) | (with_reducible refine Kd.C_drewN ?_ _) | (with_reducible refine Kd.C_drew ?_))); (case side2 => exact HC0_1.out); rintro e w15 ⟨rfl, hb⟩; refine ⟨_, rfl, ?_⟩; replace BK278 := A_ (blk_below (g := gb278) (b_ BK278) hb); replace BK279 := A_ (blk_below (g := gb279) (b_ BK279) hb); replace HB := A_ (below_step (hB_ w) hb); (try clear hb); (try clear hb2); (try clear hk); (try clear hi)))
   replace BK278 := A_ (blk_drew BK278.out); replace BK279 := A_ (blk_drew BK279.out); replace HB := A_ (below_drew1 HB.out)
   refine start_ (n := 15) (S := fun w' => w'.cell? ⟨gb278, 0, none⟩ = some (.int .i64 a0_0) ∧ w'.cell? ⟨gb278, 1, none⟩ = some (.slice A0_1 l0_1.length c0_1) ∧ w'.cell? ⟨gb279, 0, none⟩ = some (.int .i64 a1_0) ∧ w'.cell? ⟨gb279, 1, none⟩ = some (.int .i64 a1_1) ∧ w'.cell? ⟨gb279, 2, none⟩ = some (.int .i64 a1_2)) (ds := []) #[false, false, false, false, false, false, false, false, false, false, false, false, false, false, false] (by kernel_rfl) rfl rfl ⟨(blk_cell BK278.out 0).trans rfl, (blk_cell BK278.out 1).trans rfl, (blk_cell BK279.out 0).trans rfl, (blk_cell BK279.out 1).trans rfl, (blk_cell BK279.out 2).trans rfl⟩ (fun hHeld => ?_); refine with_tabW tallysticklaw16_KeepFinds.tab3 tallysticklaw16_KeepFinds.bits3 (fun HT_ HW_ => ?_)
   generalize w15.drew = w16 at BK278 BK279 HB hHeld ⊢
   refine pure_ (i := 0) (N := some 10) (v := ?_) (a' := ?_) #[true, false, false, false, false, false, false, false, false, false, false, false, false, false, false] rfl rfl (any_of HT_.out (by kernel_rfl)) (fun _ _ _ h => h) (Or.inl ⟨by rfl, ?_⟩) ?_ ?_
   rotate_left
   ·intro w'
    go_simp
    with_reducible rfl
   rotate_left
   ·simp only [Act.put, List.setIfInBounds_toArray, List.set_cons_zero, List.set_cons_succ, i64_w, i32_w]
    rfl
   refine pure_ (i := 1) (N := some 11) (v := ?_) (a' := ?_) #[true, true, false, false, false, false, false, false, false, false, false, false, false, false, false] rfl rfl (any_of HT_.out (by kernel_rfl)) (fun _ _ _ h => h) (Or.inl ⟨by rfl, ?_⟩) ?_ ?_
   rotate_left
   ·intro w'
    go_simp
    with_reducible rfl
   rotate_left
   ·simp only [Act.put, List.setIfInBounds_toArray, List.set_cons_zero, List.set_cons_succ, i64_w, i32_w]
    rfl
   refine pure_ (i := 2) (N := some 12) (v := ?_) (a' := ?_) #[true, true, true, false, false, false, false, false, false, false, false, false, false, false, false] rfl rfl (any_of HT_.out (by kernel_rfl)) (fun _ _ _ h => h) (Or.inl ⟨by rfl, ?_⟩) ?_ ?_
   rotate_left
   ·intro w'
    go_simp
    with_reducible rfl
   rotate_left
   ·simp only [Act.put, List.setIfInBounds_toArray, List.set_cons_zero, List.set_cons_succ, i64_w, i32_w]
    rfl
   refine pure_ (i := 3) (N := some 13) (v := ?_) (a' := ?_) #[true, true, true, true, false, false, false, false, false, false, false, false, false, false, false] rfl rfl (any_of HT_.out (by kernel_rfl)) (fun _ _ _ h => h) (Or.inl ⟨by rfl, ?_⟩) ?_ ?_
   rotate_left
   ·intro w'
    go_simp
    with_reducible rfl
   rotate_left
   ·simp only [Act.put, List.setIfInBounds_toArray, List.set_cons_zero, List.set_cons_succ, i64_w, i32_w]
    rfl
   refine pure_ (i := 4) (N := some 14) (v := ?_) (a' := ?_) #[true, true, true, true, true, false, false, false, false, false, false, false, false, false, false] rfl rfl (any_of HT_.out (by kernel_rfl)) (fun _ _ _ h => h) (Or.inl ⟨by rfl, ?_⟩) ?_ ?_
   rotate_left
   ·intro w'
    go_simp
    with_reducible rfl
   rotate_left
   ·simp only [Act.put, List.setIfInBounds_toArray, List.set_cons_zero, List.set_cons_succ, i64_w, i32_w]
    rfl
   refine take_ (i := 5) (N := some 15) (v := ?_) (a' := ?_) #[true, true, true, true, true, true, false, false, false, false, false, false, false, false, false] rfl rfl (take_ofW HT_.out HW_.out (by kernel_rfl)) (fun _ _ _ h => h) (Or.inl ⟨by rfl, ?_⟩) hHeld ?_ ?_
   rotate_left
   ·rintro w' ⟨s0, s1, s2, s3, s4⟩
    go_simp
    with_reducible rfl
   rotate_left
   ·simp only [Act.put, List.setIfInBounds_toArray, List.set_cons_zero, List.set_cons_succ, i64_w, i32_w]
    rfl
   refine take_ (i := 6) (N := some 16) (v := ?_) (a' := ?_) #[true, true, true, true, true, true, true, false, false, false, false, false, false, false, false] rfl rfl (take_ofW HT_.out HW_.out (by kernel_rfl)) (fun _ _ _ h => h) (Or.inl ⟨by rfl, ?_⟩) hHeld ?_ ?_
   rotate_left
   ·rintro w' ⟨s0, s1, s2, s3, s4⟩
    go_simp
    with_reducible rfl
   rotate_left
   ·simp only [Act.put, List.setIfInBounds_toArray, List.set_cons_zero, List.set_cons_succ, i64_w, i32_w]
    rfl
   refine take_ (i := 8) (N := some 18) (v := ?_) (a' := ?_) #[true, true, true, true, true, true, true, false, true, false, false, false, false, false, false] rfl rfl (take_ofW HT_.out HW_.out (by kernel_rfl)) (fun _ _ _ h => h) (Or.inl ⟨by rfl, ?_⟩) hHeld ?_ ?_
   rotate_left
   ·rintro w' ⟨s0, s1, s2, s3, s4⟩
    go_simp
    with_reducible rfl
   rotate_left
   ·simp only [Act.put, List.setIfInBounds_toArray, List.set_cons_zero, List.set_cons_succ, i64_w, i32_w]
    rfl
   refine take_ (i := 9) (N := some 19) (v := ?_) (a' := ?_) #[true, true, true, true, true, true, true, false, true, true, false, false, false, false, false] rfl rfl (take_ofW HT_.out HW_.out (by kernel_rfl)) (fun _ _ _ h => h) (Or.inl ⟨by rfl, ?_⟩) hHeld ?_ ?_
   rotate_left
   ·rintro w' ⟨s0, s1, s2, s3, s4⟩
    go_simp
    with_reducible rfl
   rotate_left
   ·simp only [Act.put, List.setIfInBounds_toArray, List.set_cons_zero, List.set_cons_succ, i64_w, i32_w]
    rfl
   refine one_ (i := 7) (N := some 17) #[true, true, true, true, true, true, true, true, true, true, false, false, false, false, false] rfl rfl (one_of HT_.out (by kernel_rfl)) (by decide) (fun K hK => ?_)
   refine goes_ Tryd.func9 (by kernel_rfl) rfl #[.agg #[.int .i64 a0_0, .slice A0_1 l0_1.length c0_1], .agg #[.int .i64 a1_0, .int .i64 a1_1, .int .i64 a1_2]] (by rfl) rfl rfl (by (try simp only [List.map_toArray, List.map_cons, List.map_nil]); first | done | rfl | (simp only [List.length_drop, List.length_take]; rfl)) ?_
   with_reducible refine (keep_Find.calls k a0_0 (fun k_ => k_ < w.heap.size) _ _ l0_1 a1_0 a1_1 a1_2 t282 _ (tbc_at w) ?side1 A7.out).mono ?_
   (case side1 => exact Kd.V_mk HC0_1.out (Kd.F_below (Kd.C_F k41_heap HR0_1.out) (hB_ w)))
   rintro e w17 ⟨v283, rfl, ho0, hb⟩
   refine ⟨_, rfl, ?_⟩
   have HO284 := A_ (Kd.N_lower (Kd.N_mono (ok' := fun k_ => k_ ≠ gb278 ∧ k_ ≠ gb279) ho0 (fun k_ hk_ => ⟨Or.elim hk_ (fun hs_ => fun e_ => Nat.not_le.2 hs_ (by rw [e_]; exact GW278.out)) (fun hn_ => (Kd.freshB (g := gb278) (b_ BK278) k_ hn_)), Or.elim hk_ (fun hs_ => fun e_ => Nat.not_le.2 hs_ (by rw [e_]; exact GW279.out)) (fun hn_ => (Kd.freshB (g := gb279) (b_ BK279) k_ hn_))⟩)) (below_size (hB_ w))); replace BK278 := A_ (blk_below (g := gb278) (b_ BK278) hb); replace BK279 := A_ (blk_below (g := gb279) (b_ BK279) hb); replace HB := A_ (below_step (hB_ w) hb)
   (try clear hb)
   (try clear hb2)
   (try clear hk)
   (try clear hi)
   (try clear ho0)
   refine hK.out _ _ (tallysticklaw16_KeepFinds.held0_ BK278 BK279) (fun hHeld => ?_)
   clear hK K
   refine norm_ (a' := ?_) ?_ ?_
   rotate_left
   ·show Act.put _ (some 17) _ = _
    simp only [Act.put, List.setIfInBounds_toArray, List.set_cons_zero, List.set_cons_succ, i64_w, i32_w]
    rfl
   refine one_ (i := 10) (N := some 20) #[true, true, true, true, true, true, true, true, true, true, true, false, false, false, false] rfl rfl (one_of HT_.out (by kernel_rfl)) (by decide) (fun K hK => ?_)
   refine goes_ Tryd.func10 (by kernel_rfl) rfl #[.agg #[.int .i64 a0_0, .slice A0_1 l0_1.length c0_1], .agg #[.int .i64 a1_0, .int .i64 a1_1, .int .i64 a1_2]] (by rfl) rfl rfl (by (try simp only [List.map_toArray, List.map_cons, List.map_nil]); first | done | rfl | (simp only [List.length_drop, List.length_take]; rfl)) ?_
   with_reducible refine (tallystickref16_Find.calls k a0_0 _ _ l0_1 a1_0 a1_1 a1_2 t285 _ ?side1 ?side2 A8.out).mono ?_
   (case side1 => repeat (first | exact (Kd.C_below HR0_1.out HB.out) | (with_reducible refine Kd.C_alloc ?_ _) | (with_reducible refine Kd.C_drewN ?_ _) | (with_reducible refine Kd.C_drew ?_)))
   (case side2 => exact HC0_1.out)
   rintro e w18 ⟨v286, rfl, ho0, hb⟩
   refine ⟨_, rfl, ?_⟩
   have HO287 := A_ (Kd.N_lower (Kd.N_mono (ok' := fun k_ => some k_ ≠ (v283 : Value).ownBlock ∧ k_ ≠ gb278 ∧ k_ ≠ gb279) ho0 (fun k_ hk_ => ⟨(Kd.fresh' (Kd.N_lt (n_ HO284)) k_ hk_), (Kd.freshB (g := gb278) (b_ BK278) k_ hk_), (Kd.freshB (g := gb279) (b_ BK279) k_ hk_)⟩)) (below_size (hB_ w))); replace HO284 := A_ (Kd.N_elder' (n_ HO284) (Kd.N_base ho0) hb); replace BK278 := A_ (blk_below (g := gb278) (b_ BK278) hb); replace BK279 := A_ (blk_below (g := gb279) (b_ BK279) hb); replace HB := A_ (below_step (hB_ w) hb)
   (try clear hb)
   (try clear hb2)
   (try clear hk)
   (try clear hi)
   (try clear ho0)
   obtain ⟨Ao19, co19, eo19⟩ := Kd.N_slice HO284.out
   (first | subst eo19 | (injection eo19 with f1_ f2_ f3_; have f4_ := f1_.symm; have f5_ := f3_.symm; clear f1_ f2_ f3_; subst f4_; subst f5_))
   obtain ⟨Ao20, co20, eo20⟩ := Kd.N_slice HO287.out
   (first | subst eo20 | (injection eo20 with f1_ f2_ f3_; have f4_ := f1_.symm; have f5_ := f3_.symm; clear f1_ f2_ f3_; subst f4_; subst f5_))
   refine hK.out _ _ (tallysticklaw16_KeepFinds.held0_ BK278 BK279) (fun hHeld => ?_)
   clear hK K
   refine norm_ (a' := ?_) ?_ ?_
   rotate_left
   ·show Act.put _ (some 20) _ = _
    simp only [Act.put, List.setIfInBounds_toArray, List.set_cons_zero, List.set_cons_succ, i64_w, i32_w]
    rfl
   refine one_ (i := 11) (N := some 21) #[true, true, true, true, true, true, true, true, true, true, true, true, false, false, false] rfl rfl (one_of HT_.out (by kernel_rfl)) (by decide) (fun K hK => ?_)
   refine goes_ Tryd.func8 (by kernel_rfl) rfl #[.slice Ao19 t282.length co19, .slice Ao20 t285.length co20] (by rfl) rfl rfl (by (try simp only [List.map_toArray, List.map_cons, List.map_nil]); first | done | rfl | (simp only [List.length_drop, List.length_take]; rfl)) ?_
   with_reducible refine (tallystickref16_Parts.calls k _ _ t282 _ _ t285 t288 _ ?side1 ?side2 ?side3 ?side4 A9.out).mono ?_
   (case side1 => repeat (first | exact (Kd.N_reads' HO284.out).2.2 | (with_reducible refine Kd.C_alloc ?_ _) | (with_reducible refine Kd.C_drewN ?_ _) | (with_reducible refine Kd.C_drew ?_)))
   (case side2 => exact (Kd.N_reads' HO284.out).2.1)
   (case side3 => repeat (first | exact (Kd.N_reads' HO287.out).2.2 | (with_reducible refine Kd.C_alloc ?_ _) | (with_reducible refine Kd.C_drewN ?_ _) | (with_reducible refine Kd.C_drew ?_)))
   (case side4 => exact (Kd.N_reads' HO287.out).2.1)
   rintro e w21 ⟨rfl, hb⟩
   refine ⟨_, rfl, ?_⟩
   replace HO284 := A_ (Kd.N_below (n_ HO284) hb); replace HO287 := A_ (Kd.N_below (n_ HO287) hb); replace BK278 := A_ (blk_below (g := gb278) (b_ BK278) hb); replace BK279 := A_ (blk_below (g := gb279) (b_ BK279) hb); replace HB := A_ (below_step (hB_ w) hb)
   (try clear hb)
   (try clear hb2)
   (try clear hk)
   (try clear hi)
   refine hK.out _ _ (tallysticklaw16_KeepFinds.held0_ BK278 BK279) (fun hHeld => ?_)
   clear hK K
   refine norm_ (a' := ?_) ?_ ?_
   rotate_left
   ·show Act.put _ (some 21) _ = _
    simp only [Act.put, List.setIfInBounds_toArray, List.set_cons_zero, List.set_cons_succ, i64_w, i32_w]
    rfl
   refine pure_ (i := 12) (N := some 22) (v := ?_) (a' := ?_) #[true, true, true, true, true, true, true, true, true, true, true, true, true, false, false] rfl rfl (any_of HT_.out (by kernel_rfl)) (fun _ _ _ h => h) (Or.inl ⟨by rfl, ?_⟩) ?_ ?_
   rotate_left
   ·intro w'
    go_simp
    with_reducible rfl
   rotate_left
   ·simp only [Act.put, List.setIfInBounds_toArray, List.set_cons_zero, List.set_cons_succ, i64_w, i32_w]
    rfl
   refine pure_ (i := 13) (N := some 23) (v := ?_) (a' := ?_) #[true, true, true, true, true, true, true, true, true, true, true, true, true, true, false] rfl rfl (any_of HT_.out (by kernel_rfl)) (fun _ _ _ h => h) (Or.inl ⟨by rfl, ?_⟩) ?_ ?_
   rotate_left
   ·intro w'
    go_simp
    with_reducible rfl
   rotate_left
   ·simp only [Act.put, List.setIfInBounds_toArray, List.set_cons_zero, List.set_cons_succ, i64_w, i32_w]
    rfl
   refine pure_ (i := 14) (N := some 4) (v := ?_) (a' := ?_) #[true, true, true, true, true, true, true, true, true, true, true, true, true, true, true] rfl rfl (any_of HT_.out (by kernel_rfl)) (fun _ _ _ h => h) (Or.inl ⟨by rfl, ?_⟩) ?_ ?_
   rotate_left
   ·intro w'
    go_simp
    with_reducible rfl
   rotate_left
   ·simp only [Act.put, List.setIfInBounds_toArray, List.set_cons_zero, List.set_cons_succ, i64_w, i32_w]
    rfl
   refine done_ (done_of HT_.out (by kernel_rfl)) ?_
   try go_wp2
   go_ret
   exact ⟨by first | rfl | (simp [errW_none, errW_some] <;> rfl) | (simp [*, errW_none, errW_some] <;> rfl), hB_ w⟩
  replace c6 := Bool.eq_false_iff.mpr c6
  subst c6
  have H1 : (some true) = some r := by rw [if_neg (show ¬ (false = true) by decide)] at H; exact H
  clear H
  have H := H1
  clear H1
  obtain rfl := Option.some.inj H
  go_enter Tryd.func4, Tryd.ntmps4
  try go_wp2_with (first | ((with_reducible refine gate_dst (N := 2) rfl ?_); refine box_event ?hg (N := 2) ?hd (cs := #[.int .i64 a0_0, .slice A0_1 l0_1.length c0_1]) (t := 29) ?hr ?_; (case hd => rfl); (case hg => rfl); (case hr => first | (go_simp; done) | (go_simp; rfl)); intro gb278 hg w22 hbox hb; have BK278 := A_ hbox; have GW278 := A_ ((by rw [hg]; exact (below_size (hB_ w)) : w.heap.size ≤ gb278)); have GE278 := A_ ((by rw [hg]; exact (below_size (hB_ w)) : w.heap.size ≤ gb278)); replace HB := A_ (below_step (hB_ w) hb); clear hb hbox hg) | ((with_reducible refine gate_dst (N := 3) rfl ?_); refine box_event ?hg (N := 3) ?hd (cs := #[.int .i64 a1_0, .int .i64 a1_1, .int .i64 a1_2]) (t := 31) ?hr ?_; (case hd => rfl); (case hg => rfl); (case hr => first | (go_simp; done) | (go_simp; rfl)); intro gb279 hg w23 hbox hb; have BK279 := A_ hbox; have GW279 := A_ ((by rw [hg]; exact (below_size (hB_ w)) : w.heap.size ≤ gb279)); have GE279 := A_ ((by rw [hg]; exact (below_size (hB_ w)) : w.heap.size ≤ gb279)); replace HB := A_ (below_step (hB_ w) hb); have NB278_279 := A_ ((by rw [hg]; exact Nat.ne_of_lt (blk_lt (g := gb278) (b_ BK278)) : gb278 ≠ gb279)); have NB279_278 := A_ ((by rw [hg]; exact Nat.ne_of_gt (blk_lt (g := gb278) (b_ BK278)) : gb279 ≠ gb278)); replace BK278 := A_ (blk_below (g := gb278) (b_ BK278) hb); clear hb hbox hg) | ((with_reducible refine gate_callee (f := 5) rfl ?_); refine goesL_ (some 7) rfl rfl Tryd.func5 (by kernel_rfl) rfl #[] rfl (by (try simp only [List.map_toArray, List.map_cons, List.map_nil]); first | done | rfl | (simp only [List.length_drop, List.length_take]; rfl)) ?_; (with_reducible refine (tallysticklaw16_shown.calls  true _ (tbc_at w) A3.out).mono ?_); rintro e w24 ⟨rfl, hb⟩; refine ⟨_, rfl, ?_⟩; replace BK278 := A_ (blk_below (g := gb278) (b_ BK278) hb); replace BK279 := A_ (blk_below (g := gb279) (b_ BK279) hb); replace HB := A_ (below_step (hB_ w) hb); (try clear hb); (try clear hb2); (try clear hk); (try clear hi); have hnb25 := NB278_279.out; have hnc25 := NB279_278.out; obtain ⟨hcz26_0, hcz26_1, hfz26_0, hfz26_1⟩ := cf2_ BK278) | ((with_reducible refine gate_callee (f := 7) rfl ?_); refine goesL_ (some 9) rfl rfl Tryd.func7 (by kernel_rfl) rfl #[.agg #[.int .i64 a0_0, .slice A0_1 l0_1.length c0_1]] rfl (by (try simp only [List.map_toArray, List.map_cons, List.map_nil]); first | done | rfl | (simp only [List.length_drop, List.length_take]; rfl)) ?_; (with_reducible refine (tallystickref15_Right.calls k a0_0 _ _ l0_1 false _ ?side1 ?side2 A4.out).mono ?_); (case side1 => repeat (first | exact (Kd.C_below HR0_1.out HB.out) | (with_reducible refine Kd.C_alloc ?_ _) | (with_reducible refine Kd.C_drewN ?_ _) | (with_reducible refine Kd.C_drew ?_))); (case side2 => exact HC0_1.out); rintro e w27 ⟨rfl, hb⟩; refine ⟨_, rfl, ?_⟩; replace BK278 := A_ (blk_below (g := gb278) (b_ BK278) hb); replace BK279 := A_ (blk_below (g := gb279) (b_ BK279) hb); replace HB := A_ (below_step (hB_ w) hb); (try clear hb); (try clear hb2); (try clear hk); (try clear hi)))
  replace BK278 := A_ (blk_drew BK278.out); replace BK279 := A_ (blk_drew BK279.out); replace HB := A_ (below_drew1 HB.out)
  refine start_ (n := 15) (S := fun w' => True) (ds := []) #[false, false, false, false, false, false, false, false, false, false, false, false, false, false, false] (by kernel_rfl) rfl rfl trivial (fun hHeld => ?_); refine with_tabW tallysticklaw16_KeepFinds.tab3 tallysticklaw16_KeepFinds.bits3 (fun HT_ HW_ => ?_)
  generalize w27.drew = w28 at BK278 BK279 HB hHeld ⊢
  refine pure_ (i := 0) (N := some 10) (v := ?_) (a' := ?_) #[true, false, false, false, false, false, false, false, false, false, false, false, false, false, false] rfl rfl (any_of HT_.out (by kernel_rfl)) (fun _ _ _ h => h) (Or.inl ⟨by rfl, ?_⟩) ?_ ?_
  rotate_left
  ·intro w'
   go_simp
   with_reducible rfl
  rotate_left
  ·simp only [Act.put, List.setIfInBounds_toArray, List.set_cons_zero, List.set_cons_succ, i64_w, i32_w]
   rfl
  refine pure_ (i := 1) (N := some 11) (v := ?_) (a' := ?_) #[true, true, false, false, false, false, false, false, false, false, false, false, false, false, false] rfl rfl (any_of HT_.out (by kernel_rfl)) (fun _ _ _ h => h) (Or.inl ⟨by rfl, ?_⟩) ?_ ?_
  rotate_left
  ·intro w'
   go_simp
   with_reducible rfl
  rotate_left
  ·simp only [Act.put, List.setIfInBounds_toArray, List.set_cons_zero, List.set_cons_succ, i64_w, i32_w]
   rfl
  refine pure_ (i := 2) (N := some 12) (v := ?_) (a' := ?_) #[true, true, true, false, false, false, false, false, false, false, false, false, false, false, false] rfl rfl (any_of HT_.out (by kernel_rfl)) (fun _ _ _ h => h) (Or.inl ⟨by rfl, ?_⟩) ?_ ?_
  rotate_left
  ·intro w'
   go_simp
   with_reducible rfl
  rotate_left
  ·simp only [Act.put, List.setIfInBounds_toArray, List.set_cons_zero, List.set_cons_succ, i64_w, i32_w]
   rfl
  refine pure_ (i := 3) (N := some 13) (v := ?_) (a' := ?_) #[true, true, true, true, false, false, false, false, false, false, false, false, false, false, false] rfl rfl (any_of HT_.out (by kernel_rfl)) (fun _ _ _ h => h) (Or.inl ⟨by rfl, ?_⟩) ?_ ?_
  rotate_left
  ·intro w'
   go_simp
   with_reducible rfl
  rotate_left
  ·simp only [Act.put, List.setIfInBounds_toArray, List.set_cons_zero, List.set_cons_succ, i64_w, i32_w]
   rfl
  refine pure_ (i := 4) (N := some 14) (v := ?_) (a' := ?_) #[true, true, true, true, true, false, false, false, false, false, false, false, false, false, false] rfl rfl (any_of HT_.out (by kernel_rfl)) (fun _ _ _ h => h) (Or.inl ⟨by rfl, ?_⟩) ?_ ?_
  rotate_left
  ·intro w'
   go_simp
   with_reducible rfl
  rotate_left
  ·simp only [Act.put, List.setIfInBounds_toArray, List.set_cons_zero, List.set_cons_succ, i64_w, i32_w]
   rfl
  refine pure_ (i := 5) (N := some 15) (v := undef) (a' := ?_) #[true, true, true, true, true, true, false, false, false, false, false, false, false, false, false] rfl rfl (any_of HT_.out (by kernel_rfl)) (fun _ _ _ h => h) (Or.inr ⟨by rfl, rfl⟩) ?_ ?_
  rotate_left
  ·simp only [Act.put, List.setIfInBounds_toArray, List.set_cons_zero, List.set_cons_succ, i64_w, i32_w]
   rfl
  refine pure_ (i := 6) (N := some 16) (v := undef) (a' := ?_) #[true, true, true, true, true, true, true, false, false, false, false, false, false, false, false] rfl rfl (any_of HT_.out (by kernel_rfl)) (fun _ _ _ h => h) (Or.inr ⟨by rfl, rfl⟩) ?_ ?_
  rotate_left
  ·simp only [Act.put, List.setIfInBounds_toArray, List.set_cons_zero, List.set_cons_succ, i64_w, i32_w]
   rfl
  refine pure_ (i := 7) (N := some 17) (v := undef) (a' := ?_) #[true, true, true, true, true, true, true, true, false, false, false, false, false, false, false] rfl rfl (any_of HT_.out (by kernel_rfl)) (fun _ _ _ h => h) (Or.inr ⟨by rfl, rfl⟩) ?_ ?_
  rotate_left
  ·simp only [Act.put, List.setIfInBounds_toArray, List.set_cons_zero, List.set_cons_succ, i64_w, i32_w]
   rfl
  refine pure_ (i := 8) (N := some 18) (v := undef) (a' := ?_) #[true, true, true, true, true, true, true, true, true, false, false, false, false, false, false] rfl rfl (any_of HT_.out (by kernel_rfl)) (fun _ _ _ h => h) (Or.inr ⟨by rfl, rfl⟩) ?_ ?_
  rotate_left
  ·simp only [Act.put, List.setIfInBounds_toArray, List.set_cons_zero, List.set_cons_succ, i64_w, i32_w]
   rfl
  refine pure_ (i := 9) (N := some 19) (v := undef) (a' := ?_) #[true, true, true, true, true, true, true, true, true, true, false, false, false, false, false] rfl rfl (any_of HT_.out (by kernel_rfl)) (fun _ _ _ h => h) (Or.inr ⟨by rfl, rfl⟩) ?_ ?_
  rotate_left
  ·simp only [Act.put, List.setIfInBounds_toArray, List.set_cons_zero, List.set_cons_succ, i64_w, i32_w]
   rfl
  refine pure_ (i := 10) (N := some 20) (v := undef) (a' := ?_) #[true, true, true, true, true, true, true, true, true, true, true, false, false, false, false] rfl rfl (any_of HT_.out (by kernel_rfl)) (fun _ _ _ h => h) (Or.inr ⟨by rfl, rfl⟩) ?_ ?_
  rotate_left
  ·simp only [Act.put, List.setIfInBounds_toArray, List.set_cons_zero, List.set_cons_succ, i64_w, i32_w]
   rfl
  refine pure_ (i := 11) (N := some 21) (v := undef) (a' := ?_) #[true, true, true, true, true, true, true, true, true, true, true, true, false, false, false] rfl rfl (any_of HT_.out (by kernel_rfl)) (fun _ _ _ h => h) (Or.inr ⟨by rfl, rfl⟩) ?_ ?_
  rotate_left
  ·simp only [Act.put, List.setIfInBounds_toArray, List.set_cons_zero, List.set_cons_succ, i64_w, i32_w]
   rfl
  refine pure_ (i := 12) (N := some 22) (v := ?_) (a' := ?_) #[true, true, true, true, true, true, true, true, true, true, true, true, true, false, false] rfl rfl (any_of HT_.out (by kernel_rfl)) (fun _ _ _ h => h) (Or.inl ⟨by rfl, ?_⟩) ?_ ?_
  rotate_left
  ·intro w'
   go_simp
   with_reducible rfl
  rotate_left
  ·simp only [Act.put, List.setIfInBounds_toArray, List.set_cons_zero, List.set_cons_succ, i64_w, i32_w]
   rfl
  refine pure_ (i := 13) (N := some 23) (v := ?_) (a' := ?_) #[true, true, true, true, true, true, true, true, true, true, true, true, true, true, false] rfl rfl (any_of HT_.out (by kernel_rfl)) (fun _ _ _ h => h) (Or.inl ⟨by rfl, ?_⟩) ?_ ?_
  rotate_left
  ·intro w'
   go_simp
   with_reducible rfl
  rotate_left
  ·simp only [Act.put, List.setIfInBounds_toArray, List.set_cons_zero, List.set_cons_succ, i64_w, i32_w]
   rfl
  refine pure_ (i := 14) (N := some 4) (v := ?_) (a' := ?_) #[true, true, true, true, true, true, true, true, true, true, true, true, true, true, true] rfl rfl (any_of HT_.out (by kernel_rfl)) (fun _ _ _ h => h) (Or.inl ⟨by rfl, ?_⟩) ?_ ?_
  rotate_left
  ·intro w'
   go_simp
   with_reducible rfl
  rotate_left
  ·simp only [Act.put, List.setIfInBounds_toArray, List.set_cons_zero, List.set_cons_succ, i64_w, i32_w]
   rfl
  refine done_ (done_of HT_.out (by kernel_rfl)) ?_
  try go_wp2
  go_ret
  exact ⟨by first | rfl | (simp [errW_none, errW_some] <;> rfl) | (simp [*, errW_none, errW_some] <;> rfl), hB_ w⟩
 replace c5 := Bool.eq_false_iff.mpr c5
 subst c5
 have H1 : (some false) = some r := by rw [if_neg (show ¬ (false = true) by decide)] at H; exact H
 clear H
 have H := H1
 clear H1
 obtain rfl := Option.some.inj H
 go_enter Tryd.func4, Tryd.ntmps4
 try go_wp2_with (first | ((with_reducible refine gate_dst (N := 2) rfl ?_); refine box_event ?hg (N := 2) ?hd (cs := #[.int .i64 a0_0, .slice A0_1 l0_1.length c0_1]) (t := 29) ?hr ?_; (case hd => rfl); (case hg => rfl); (case hr => first | (go_simp; done) | (go_simp; rfl)); intro gb278 hg w29 hbox hb; have BK278 := A_ hbox; have GW278 := A_ ((by rw [hg]; exact (below_size (hB_ w)) : w.heap.size ≤ gb278)); have GE278 := A_ ((by rw [hg]; exact (below_size (hB_ w)) : w.heap.size ≤ gb278)); replace HB := A_ (below_step (hB_ w) hb); clear hb hbox hg) | ((with_reducible refine gate_dst (N := 3) rfl ?_); refine box_event ?hg (N := 3) ?hd (cs := #[.int .i64 a1_0, .int .i64 a1_1, .int .i64 a1_2]) (t := 31) ?hr ?_; (case hd => rfl); (case hg => rfl); (case hr => first | (go_simp; done) | (go_simp; rfl)); intro gb279 hg w30 hbox hb; have BK279 := A_ hbox; have GW279 := A_ ((by rw [hg]; exact (below_size (hB_ w)) : w.heap.size ≤ gb279)); have GE279 := A_ ((by rw [hg]; exact (below_size (hB_ w)) : w.heap.size ≤ gb279)); replace HB := A_ (below_step (hB_ w) hb); have NB278_279 := A_ ((by rw [hg]; exact Nat.ne_of_lt (blk_lt (g := gb278) (b_ BK278)) : gb278 ≠ gb279)); have NB279_278 := A_ ((by rw [hg]; exact Nat.ne_of_gt (blk_lt (g := gb278) (b_ BK278)) : gb279 ≠ gb278)); replace BK278 := A_ (blk_below (g := gb278) (b_ BK278) hb); clear hb hbox hg) | ((with_reducible refine gate_callee (f := 5) rfl ?_); refine goesL_ (some 7) rfl rfl Tryd.func5 (by kernel_rfl) rfl #[] rfl (by (try simp only [List.map_toArray, List.map_cons, List.map_nil]); first | done | rfl | (simp only [List.length_drop, List.length_take]; rfl)) ?_; (with_reducible refine (tallysticklaw16_shown.calls  false _ (tbc_at w) A3.out).mono ?_); rintro e w31 ⟨rfl, hb⟩; refine ⟨_, rfl, ?_⟩; replace BK278 := A_ (blk_below (g := gb278) (b_ BK278) hb); replace BK279 := A_ (blk_below (g := gb279) (b_ BK279) hb); replace HB := A_ (below_step (hB_ w) hb); (try clear hb); (try clear hb2); (try clear hk); (try clear hi); have hnb32 := NB278_279.out; have hnc32 := NB279_278.out; obtain ⟨hcz33_0, hcz33_1, hfz33_0, hfz33_1⟩ := cf2_ BK278) | ((with_reducible refine gate_callee (f := 7) rfl ?_); refine goesL_ (some 9) rfl rfl Tryd.func7 (by kernel_rfl) rfl #[.agg #[.int .i64 a0_0, .slice A0_1 l0_1.length c0_1]] rfl (by (try simp only [List.map_toArray, List.map_cons, List.map_nil]); first | done | rfl | (simp only [List.length_drop, List.length_take]; rfl)) ?_; (with_reducible refine (tallystickref15_Right.calls k a0_0 _ _ l0_1 t281 _ ?side1 ?side2 A4.out).mono ?_); (case side1 => repeat (first | exact (Kd.C_below HR0_1.out HB.out) | (with_reducible refine Kd.C_alloc ?_ _) | (with_reducible refine Kd.C_drewN ?_ _) | (with_reducible refine Kd.C_drew ?_))); (case side2 => exact HC0_1.out); rintro e w34 ⟨rfl, hb⟩; refine ⟨_, rfl, ?_⟩; replace BK278 := A_ (blk_below (g := gb278) (b_ BK278) hb); replace BK279 := A_ (blk_below (g := gb279) (b_ BK279) hb); replace HB := A_ (below_step (hB_ w) hb); (try clear hb); (try clear hb2); (try clear hk); (try clear hi)))
 replace BK278 := A_ (blk_drew BK278.out); replace BK279 := A_ (blk_drew BK279.out); replace HB := A_ (below_drew1 HB.out)
 refine start_ (n := 15) (S := fun w' => True) (ds := []) #[false, false, false, false, false, false, false, false, false, false, false, false, false, false, false] (by kernel_rfl) rfl rfl trivial (fun hHeld => ?_); refine with_tabW tallysticklaw16_KeepFinds.tab3 tallysticklaw16_KeepFinds.bits3 (fun HT_ HW_ => ?_)
 generalize w34.drew = w35 at BK278 BK279 HB hHeld ⊢
 refine pure_ (i := 0) (N := some 10) (v := ?_) (a' := ?_) #[true, false, false, false, false, false, false, false, false, false, false, false, false, false, false] rfl rfl (any_of HT_.out (by kernel_rfl)) (fun _ _ _ h => h) (Or.inl ⟨by rfl, ?_⟩) ?_ ?_
 rotate_left
 ·intro w'
  go_simp
  with_reducible rfl
 rotate_left
 ·simp only [Act.put, List.setIfInBounds_toArray, List.set_cons_zero, List.set_cons_succ, i64_w, i32_w]
  rfl
 refine pure_ (i := 1) (N := some 11) (v := ?_) (a' := ?_) #[true, true, false, false, false, false, false, false, false, false, false, false, false, false, false] rfl rfl (any_of HT_.out (by kernel_rfl)) (fun _ _ _ h => h) (Or.inl ⟨by rfl, ?_⟩) ?_ ?_
 rotate_left
 ·intro w'
  go_simp
  with_reducible rfl
 rotate_left
 ·simp only [Act.put, List.setIfInBounds_toArray, List.set_cons_zero, List.set_cons_succ, i64_w, i32_w]
  rfl
 refine pure_ (i := 2) (N := some 12) (v := undef) (a' := ?_) #[true, true, true, false, false, false, false, false, false, false, false, false, false, false, false] rfl rfl (any_of HT_.out (by kernel_rfl)) (fun _ _ _ h => h) (Or.inr ⟨by rfl, rfl⟩) ?_ ?_
 rotate_left
 ·simp only [Act.put, List.setIfInBounds_toArray, List.set_cons_zero, List.set_cons_succ, i64_w, i32_w]
  rfl
 refine pure_ (i := 3) (N := some 13) (v := undef) (a' := ?_) #[true, true, true, true, false, false, false, false, false, false, false, false, false, false, false] rfl rfl (any_of HT_.out (by kernel_rfl)) (fun _ _ _ h => h) (Or.inr ⟨by rfl, rfl⟩) ?_ ?_
 rotate_left
 ·simp only [Act.put, List.setIfInBounds_toArray, List.set_cons_zero, List.set_cons_succ, i64_w, i32_w]
  rfl
 refine pure_ (i := 4) (N := some 14) (v := undef) (a' := ?_) #[true, true, true, true, true, false, false, false, false, false, false, false, false, false, false] rfl rfl (any_of HT_.out (by kernel_rfl)) (fun _ _ _ h => h) (Or.inr ⟨by rfl, rfl⟩) ?_ ?_
 rotate_left
 ·simp only [Act.put, List.setIfInBounds_toArray, List.set_cons_zero, List.set_cons_succ, i64_w, i32_w]
  rfl
 refine pure_ (i := 5) (N := some 15) (v := undef) (a' := ?_) #[true, true, true, true, true, true, false, false, false, false, false, false, false, false, false] rfl rfl (any_of HT_.out (by kernel_rfl)) (fun _ _ _ h => h) (Or.inr ⟨by rfl, rfl⟩) ?_ ?_
 rotate_left
 ·simp only [Act.put, List.setIfInBounds_toArray, List.set_cons_zero, List.set_cons_succ, i64_w, i32_w]
  rfl
 refine pure_ (i := 6) (N := some 16) (v := undef) (a' := ?_) #[true, true, true, true, true, true, true, false, false, false, false, false, false, false, false] rfl rfl (any_of HT_.out (by kernel_rfl)) (fun _ _ _ h => h) (Or.inr ⟨by rfl, rfl⟩) ?_ ?_
 rotate_left
 ·simp only [Act.put, List.setIfInBounds_toArray, List.set_cons_zero, List.set_cons_succ, i64_w, i32_w]
  rfl
 refine pure_ (i := 7) (N := some 17) (v := undef) (a' := ?_) #[true, true, true, true, true, true, true, true, false, false, false, false, false, false, false] rfl rfl (any_of HT_.out (by kernel_rfl)) (fun _ _ _ h => h) (Or.inr ⟨by rfl, rfl⟩) ?_ ?_
 rotate_left
 ·simp only [Act.put, List.setIfInBounds_toArray, List.set_cons_zero, List.set_cons_succ, i64_w, i32_w]
  rfl
 refine pure_ (i := 8) (N := some 18) (v := undef) (a' := ?_) #[true, true, true, true, true, true, true, true, true, false, false, false, false, false, false] rfl rfl (any_of HT_.out (by kernel_rfl)) (fun _ _ _ h => h) (Or.inr ⟨by rfl, rfl⟩) ?_ ?_
 rotate_left
 ·simp only [Act.put, List.setIfInBounds_toArray, List.set_cons_zero, List.set_cons_succ, i64_w, i32_w]
  rfl
 refine pure_ (i := 9) (N := some 19) (v := undef) (a' := ?_) #[true, true, true, true, true, true, true, true, true, true, false, false, false, false, false] rfl rfl (any_of HT_.out (by kernel_rfl)) (fun _ _ _ h => h) (Or.inr ⟨by rfl, rfl⟩) ?_ ?_
 rotate_left
 ·simp only [Act.put, List.setIfInBounds_toArray, List.set_cons_zero, List.set_cons_succ, i64_w, i32_w]
  rfl
 refine pure_ (i := 10) (N := some 20) (v := undef) (a' := ?_) #[true, true, true, true, true, true, true, true, true, true, true, false, false, false, false] rfl rfl (any_of HT_.out (by kernel_rfl)) (fun _ _ _ h => h) (Or.inr ⟨by rfl, rfl⟩) ?_ ?_
 rotate_left
 ·simp only [Act.put, List.setIfInBounds_toArray, List.set_cons_zero, List.set_cons_succ, i64_w, i32_w]
  rfl
 refine pure_ (i := 11) (N := some 21) (v := undef) (a' := ?_) #[true, true, true, true, true, true, true, true, true, true, true, true, false, false, false] rfl rfl (any_of HT_.out (by kernel_rfl)) (fun _ _ _ h => h) (Or.inr ⟨by rfl, rfl⟩) ?_ ?_
 rotate_left
 ·simp only [Act.put, List.setIfInBounds_toArray, List.set_cons_zero, List.set_cons_succ, i64_w, i32_w]
  rfl
 refine pure_ (i := 12) (N := some 22) (v := undef) (a' := ?_) #[true, true, true, true, true, true, true, true, true, true, true, true, true, false, false] rfl rfl (any_of HT_.out (by kernel_rfl)) (fun _ _ _ h => h) (Or.inr ⟨by rfl, rfl⟩) ?_ ?_
 rotate_left
 ·simp only [Act.put, List.setIfInBounds_toArray, List.set_cons_zero, List.set_cons_succ, i64_w, i32_w]
  rfl
 refine pure_ (i := 13) (N := some 23) (v := ?_) (a' := ?_) #[true, true, true, true, true, true, true, true, true, true, true, true, true, true, false] rfl rfl (any_of HT_.out (by kernel_rfl)) (fun _ _ _ h => h) (Or.inl ⟨by rfl, ?_⟩) ?_ ?_
 rotate_left
 ·intro w'
  go_simp
  with_reducible rfl
 rotate_left
 ·simp only [Act.put, List.setIfInBounds_toArray, List.set_cons_zero, List.set_cons_succ, i64_w, i32_w]
  rfl
 refine pure_ (i := 14) (N := some 4) (v := ?_) (a' := ?_) #[true, true, true, true, true, true, true, true, true, true, true, true, true, true, true] rfl rfl (any_of HT_.out (by kernel_rfl)) (fun _ _ _ h => h) (Or.inl ⟨by rfl, ?_⟩) ?_ ?_
 rotate_left
 ·intro w'
  go_simp
  with_reducible rfl
 rotate_left
 ·simp only [Act.put, List.setIfInBounds_toArray, List.set_cons_zero, List.set_cons_succ, i64_w, i32_w]
  rfl
 refine done_ (done_of HT_.out (by kernel_rfl)) ?_
 try go_wp2
 go_ret
 exact ⟨by first | rfl | (simp [errW_none, errW_some] <;> rfl) | (simp [*, errW_none, errW_some] <;> rfl), hB_ w⟩

end Go.Proofs.YtbpobnlkfpjijaaDoorR.Pr
end
-- Fi
section
namespace Go.Proofs.YtbpobnlkfpjijaaDoorR.Pr
open Go.RowKit Go.Proofs.YtbpobnlkfpjijaaDoorRW.PrintWords Go.Proofs.YtbpobnlkfpjijaaDoorRW.PrintLast Go.Proofs.YtbpobnlkfpjijaaDoorRW.PrintMore
set_option linter.unusedVariables false
set_option linter.unusedSimpArgs false
theorem itoa_lt {n : Int} (h0 : 0 ≤ n) (h : n < 10) : YtbpobnlkfpjijaaDoorR.numS n = strOfNums [(48 + n % 256) % 256] := by
  unfold YtbpobnlkfpjijaaDoorR.numS strOfNums
  rw [YtbpobnlkfpjijaaDoorR.itoa_dd h0, YtbpobnlkfpjijaaDoorR.dd_lt (by omega)]
  simp only [List.map_cons, List.map_nil]
  rw [show ((48 + n % 256) % 256).toNat = 48 + n.toNat by omega]
theorem itoa_ge {n : Int} (h0 : 0 ≤ n) (h : ¬ n < 10) : YtbpobnlkfpjijaaDoorR.numS n = YtbpobnlkfpjijaaDoorR.numS (n / 10) ++ strOfNums [(48 + n % 10 % 256) % 256] := by
  unfold YtbpobnlkfpjijaaDoorR.numS strOfNums
  rw [YtbpobnlkfpjijaaDoorR.itoa_dd h0, YtbpobnlkfpjijaaDoorR.dd_ge (by omega), YtbpobnlkfpjijaaDoorR.itoa_dd (by omega)]
  simp only [List.map_cons, List.map_nil]
  rw [show ((48 + n % 10 % 256) % 256).toNat = 48 + n.toNat % 10 by omega, show (n / 10).toNat = n.toNat / 10 by omega]
  apply ByteArray.ext
  simp
theorem figures_is : ∀ (k : Nat) (n : Int), 0 ≤ n → n < 10 ^ (k + 1) → n ≤ 2147483647 → k ≤ 1000 → tallystickref16_figures.f (k + 1) n = some (YtbpobnlkfpjijaaDoorR.numS n) ∧ (YtbpobnlkfpjijaaDoorR.numS n).size ≤ k + 1
  | 0, n, h0, h1, h2, hk => by
    have h : n < 10 := by simpa using h1
    unfold tallystickref16_figures.f
    rw [if_pos h, if_neg (by omega), itoa_lt h0 h, strOfNums_size]
    exact ⟨rfl, by simp⟩
  | k + 1, n, h0, h1, h2, hk => by
    unfold tallystickref16_figures.f
    by_cases h : n < 10
    · rw [if_pos h, if_neg (by omega), itoa_lt h0 h, strOfNums_size]
      exact ⟨rfl, by simp⟩
    · have e1 : wrap64 (Int.tdiv n 10) = n / 10 := by
        rw [Int.tdiv_eq_ediv_of_nonneg h0]
        unfold wrap64
        omega
      have e2 : Int.tmod n 10 = n % 10 := Int.tmod_eq_emod_of_nonneg h0
      have h1' : n / 10 < 10 ^ (k + 1) := by
        have : (10 : Int) ^ (k + 1 + 1) = 10 ^ (k + 1) * 10 := by rw [Int.pow_succ]
        omega
      obtain ⟨i1, i2⟩ := figures_is k (n / 10) (by omega) h1' (by omega) (by omega)
      rw [if_neg h, e1, e2, i1]
      simp only [Option.bind_some]
      rw [itoa_ge h0 h, strOfNums_size]
      refine ⟨if_pos ?_, ?_⟩
      · simp only [List.length_singleton]
        omega
      · rw [ByteArray.size_append, strOfNums_size]
        simp only [List.length_singleton]
        omega
theorem fig_small (k : Nat) (n : Int) (h0 : 0 ≤ n) (h2 : n ≤ 2147483647) (hk : 12 ≤ k) : tallystickref16_figures.f k n = some (YtbpobnlkfpjijaaDoorR.numS n) ∧ (YtbpobnlkfpjijaaDoorR.numS n).size ≤ 12 := by
  have h := figures_is 11 n h0 (by omega) h2 (by omega)
  exact ⟨leo_up (tallystickref16_figures.mono n) h.1 k hk, h.2⟩
theorem nameS_parts (a b : Int) : YtbpobnlkfpjijaaDoorR.nameS a b = (((⟨#[99]⟩ : ByteArray) ++ YtbpobnlkfpjijaaDoorR.numS a) ++ (⟨#[45]⟩ : ByteArray)) ++ YtbpobnlkfpjijaaDoorR.numS b := by
  unfold YtbpobnlkfpjijaaDoorR.nameS YtbpobnlkfpjijaaDoorR.nameL YtbpobnlkfpjijaaDoorR.numS
  apply ByteArray.ext
  simp
theorem name_small (k : Nat) (a b : Int) (ha : 0 ≤ a ∧ a ≤ 2147483647) (hb : 0 ≤ b ∧ b ≤ 2147483647) (hk : 12 ≤ k) : tallystickref16_Name.f k a b = some (YtbpobnlkfpjijaaDoorR.nameS a b) := by
  obtain ⟨e1, s1⟩ := fig_small k a ha.1 ha.2 hk
  obtain ⟨e2, s2⟩ := fig_small k b hb.1 hb.2 hk
  have z1 : (⟨#[99]⟩ : ByteArray).size = 1 := rfl
  have z2 : (⟨#[45]⟩ : ByteArray).size = 1 := rfl
  unfold tallystickref16_Name.f
  rw [e1, Option.bind_some, if_pos (by omega), if_pos (by rw [ByteArray.size_append]; omega), e2, Option.bind_some, if_pos (by rw [ByteArray.size_append, ByteArray.size_append]; omega), nameS_parts]
/-- What a file of a job is taken for. -/
def ofF (s : ByteArray) (a b c : Int) : Int × Int × List Int × List Int × List Int × Bool × Int :=
  if (takeRef s).2 = 0 then (if (!((takeRef s).1.1 == a) || (!((takeRef s).1.2.1 == b) || (!((takeRef s).1.2.2.1 == c)))) = true then (0, 0, [], [], [], false, 11)
    else ((takeRef s).1.2.2.2.1, (takeRef s).1.2.2.2.2.1, (takeRef s).1.2.2.2.2.2.1, (takeRef s).1.2.2.2.2.2.2.1, (takeRef s).1.2.2.2.2.2.2.2.1, (takeRef s).1.2.2.2.2.2.2.2.2, 0))
  else (0, 0, [], [], [], false, (takeRef s).2)
theorem of_ref (s : ByteArray) (a b c : Int) (hs : s.size < 9223372036854775807) : tallystickref14_Of.f s a b c = some (ofF s a b c) := by
  unfold tallystickref14_Of.f tallystickref14_Take.f ofF
  rw [if_pos hs, Option.bind_some]
  dsimp only
  split
  · split <;> rfl
  · rfl
theorem of_crc (s : ByteArray) (a b c : Int) (hs : s.size < 9223372036854775807) : crc_Of.f s a b c = some (ofF s a b c) := by
  unfold crc_Of.f
  rw [take_f_agree]
  unfold tallystickref14_Take.f ofF
  rw [if_pos hs, Option.bind_some]
  dsimp only
  split
  · split <;> rfl
  · rfl
def partOf (x : Int × Int × List Int × List Int × List Int × Bool × Int) : S45 := ⟨⟨x.1, x.2.1⟩, x.2.2.1, x.2.2.2.1, x.2.2.2.2.1, x.2.2.2.2.2.1⟩
theorem of_rng (s : ByteArray) (a b c : Int) : (0 ≤ (ofF s a b c).1 ∧ (ofF s a b c).1 ≤ 2147483647) ∧ (0 ≤ (ofF s a b c).2.1 ∧ (ofF s a b c).2.1 ≤ 2147483647) ∧ (ofF s a b c).2.2.1.length ≤ 4096 ∧ (ofF s a b c).2.2.2.1.length ≤ 4096 ∧ (ofF s a b c).2.2.2.2.1.length ≤ 4096 := by
  have h := take_rng s
  unfold ofF
  split
  · split
    · simp
    · exact h
  · simp
/-- What a file gives. -/
def pick (a b c : Int) (f : S41) : List S45 :=
  if (ofF f.f1 a b c).2.2.2.2.2.2 = 0 then (if (YtbpobnlkfpjijaaDoorR.nameS (ofF f.f1 a b c).1 (ofF f.f1 a b c).2.1).toList = f.f0.toList then [partOf (ofF f.f1 a b c)] else []) else []
theorem pick_def (a b c : Int) (f : S41) : pick a b c f = if (ofF f.f1 a b c).2.2.2.2.2.2 = 0 then (if (YtbpobnlkfpjijaaDoorR.nameS (ofF f.f1 a b c).1 (ofF f.f1 a b c).2.1).toList = f.f0.toList then [partOf (ofF f.f1 a b c)] else []) else [] := rfl
theorem pick_len (a b c : Int) (f : S41) : (pick a b c f).length ≤ 1 := by
  unfold pick
  split
  · split <;> simp
  · simp
theorem pick_small (a b c : Int) (f : S41) : ∀ p ∈ pick a b c f, p.f1.length ≤ 4096 ∧ p.f2.length ≤ 4096 ∧ p.f3.length ≤ 4096 := by
  intro p hp
  have h := of_rng f.f1 a b c
  unfold pick at hp
  split at hp
  · split at hp
    · rw [List.mem_singleton] at hp
      subst hp
      exact h.2.2
    · simp at hp
  · simp at hp
theorem wrap_nat (i : Nat) (h : i < 1000000) : wrap64 ((i : Int) + 1) = ((i + 1 : Nat) : Int) := by unfold wrap64; omega
/-- The files whose names begin with c. -/
def cFiles (l : List S41) : List S41 := l.filter (fun f => hasC f.f0)
theorem beg_all (l : List S41) : beg l l.length = (cFiles l).map (·.f0) := by
  unfold beg cFiles
  rw [List.take_of_length_le (by simp), List.filter_map]
  rfl
theorem keep_loop (a0 : Int) (l : List S41) (a b c : Int) (hs : Sorted l) (hl : l.length ≤ 64) (hd : ∀ x ∈ l, x.f1.size ≤ 140737488351232) : ∀ (d i : Nat) (out : List S45) (k : Nat), i + d = (cFiles l).length → d < k → out.length ≤ i →
    keep_Find.l0 k out ((cFiles l).map (·.f0)) (((cFiles l).map (·.f0)).length : Int) (i : Int) a0 l a b c = some (out ++ ((cFiles l).drop i).flatMap (pick a b c))
  | d, i, out, 0, _, hk, _ => by omega
  | 0, i, out, k + 1, hi, _, ho => by
    unfold keep_Find.l0
    rw [List.length_map, if_neg (by omega), List.drop_eq_nil_of_le (by omega)]
    simp
  | d + 1, i, out, k + 1, hi, hk, ho => by
    have hcl : (cFiles l).length ≤ 64 := Nat.le_trans (List.length_filter_le _ _) hl
    have hlt : i < (cFiles l).length := by omega
    have hmem : (cFiles l)[i] ∈ l := (List.mem_filter.1 (List.getElem_mem hlt)).1
    have hrd : rdOf ByteArray.empty ((cFiles l).map (·.f0)) (i : Int) = (cFiles l)[i].f0 := by
      simp [rdOf, List.getD_eq_getElem?_getD, List.getElem?_eq_getElem hlt]
    obtain ⟨f, hf⟩ : ∃ f, (cFiles l)[i] = f := ⟨_, rfl⟩
    rw [hf] at hmem hrd
    have hr := of_rng f.f1 a b c
    have hsz : f.f1.size < 9223372036854775807 := by have := hd f hmem; omega
    have hnx : (cFiles l).drop i = f :: (cFiles l).drop (i + 1) := by rw [List.drop_eq_getElem_cons hlt, hf]
    have go1 : ∀ out', out'.length ≤ i + 1 → keep_Find.l0 k out' ((cFiles l).map (·.f0)) (((cFiles l).map (·.f0)).length : Int) (wrap64 ((i : Int) + 1)) a0 l a b c = some (out' ++ ((cFiles l).drop (i + 1)).flatMap (pick a b c)) := fun out' ho' => by
      rw [wrap_nat i (by omega)]
      exact keep_loop a0 l a b c hs hl hd d (i + 1) out' k (by omega) (by omega) ho'
    unfold keep_Find.l0
    rw [hrd, if_pos (by rw [List.length_map]; omega), if_pos (by omega), if_pos (by rw [List.length_map]; omega), read_mem a0 hs hmem, Option.bind_some]
    dsimp only
    rw [of_crc f.f1 a b c hsz, Option.bind_some, hnx, List.flatMap_cons, pick_def a b c f]
    by_cases h0 : (ofF f.f1 a b c).2.2.2.2.2.2 = 0
    · rw [if_pos h0, if_pos h0]
      unfold keep_Name.f
      rw [if_pos (by omega), Option.bind_some]
      by_cases hn : (YtbpobnlkfpjijaaDoorR.nameS (ofF f.f1 a b c).1 (ofF f.f1 a b c).2.1).toList = f.f0.toList
      · rw [if_pos hn, if_pos hn, if_pos (by omega), go1 _ (by simp; omega)]
        simp [partOf]
      · rw [if_neg hn, if_neg hn, go1 _ (by omega)]
        simp
    · rw [if_neg h0, if_neg h0, go1 _ (by omega)]
      simp
theorem first_c (s : ByteArray) (h : ¬ (s.size : Int) < 1) : (bt s 0 != 99) = !hasC s := by
  have h1 : 1 ≤ s.size := by omega
  obtain ⟨x, e1, e2, _⟩ := drop_bt s 0 (by omega)
  have e2' : bt s 0 = (x.toNat : Int) := e2
  have e3 : (s.extract 0 1).toList = [x] := by
    rw [ByteArray.toList_eq]
    have e1' : s.data.toList = x :: s.data.toList.drop 1 := by simpa using e1
    simp only [ByteArray.data_extract, Array.toList_extract, List.extract_eq_take_drop]
    rw [e1']
    simp
  unfold hasC
  rw [e2', e3, decide_eq_true h1, Bool.true_and]
  by_cases hx : x = 99
  · subst hx
    rfl
  · have hx2 : ¬ ((x.toNat : Int) = 99) := fun he => hx (by apply UInt8.toNat_inj.1; simpa using Int.ofNat_inj.1 he)
    have hx3 : ¬ ([x] = [(99 : UInt8)]) := fun he => hx (by simpa using he)
    rw [bne_iff_ne.2 hx2, beq_eq_false_iff_ne.2 hx3]
    rfl
theorem not_c (s : ByteArray) (h : (s.size : Int) < 1) : hasC s = false := by
  unfold hasC
  rw [decide_eq_false (by omega), Bool.false_and]
/-- What a file gives, where its name begins with c. -/
def pickC (a b c : Int) (f : S41) : List S45 := if hasC f.f0 = true then pick a b c f else []
theorem pickC_yes {a b c : Int} {f : S41} (h : hasC f.f0 = true) : pickC a b c f = pick a b c f := if_pos h
theorem pickC_no {a b c : Int} {f : S41} (h : hasC f.f0 = false) : pickC a b c f = [] := if_neg (by rw [h]; decide)
theorem ref_loop (a0 : Int) (l : List S41) (a b c : Int) (hl : l.length ≤ 64) (hd : ∀ x ∈ l, x.f1.size ≤ 140737488351232) : ∀ (d i : Nat) (out : List S45) (k : Nat), i + d = l.length → 2 * d + 20 < k → out.length ≤ i →
    tallystickref16_Find.l0 k out (i : Int) a0 l a b c = some (out ++ (l.drop i).flatMap (pickC a b c))
  | d, i, out, 0, _, hk, _ => by omega
  | 0, i, out, k + 1, hi, _, ho => by
    unfold tallystickref16_Find.l0
    rw [if_neg (by omega), List.drop_eq_nil_of_le (by omega)]
    simp
  | d + 1, i, out, 1, hi, hk, ho => by omega
  | d + 1, i, out, k + 2, hi, hk, ho => by
    have hlt : i < l.length := by omega
    have hmem : l[i] ∈ l := List.getElem_mem hlt
    obtain ⟨f, hf⟩ : ∃ f, l[i] = f := ⟨_, rfl⟩
    have hrd : rd_T41 l (i : Int) = f := by rw [rd_nil_lt l i hlt, hf]
    rw [hf] at hmem
    have hr := of_rng f.f1 a b c
    have hsz : f.f1.size < 9223372036854775807 := by have := hd f hmem; omega
    have hnx : l.drop i = f :: l.drop (i + 1) := by rw [List.drop_eq_getElem_cons hlt, hf]
    have go1 : ∀ out', out'.length ≤ i + 1 → tallystickref16_Find.l0 k out' (wrap64 ((i : Int) + 1)) a0 l a b c = some (out' ++ (l.drop (i + 1)).flatMap (pickC a b c)) := fun out' ho' => by
      rw [wrap_nat i (by omega)]
      exact ref_loop a0 l a b c hl hd d (i + 1) out' k (by omega) (by omega) ho'
    have skip : hasC f.f0 = false → tallystickref16_Find.j1 (k + 1) out (i : Int) true a0 l a b c f.f0 f.f1 f.f2 = some (out ++ (l.drop i).flatMap (pickC a b c)) := fun hc => by
      unfold tallystickref16_Find.j1
      rw [if_pos rfl, go1 _ (by omega), hnx, List.flatMap_cons, pickC_no hc]
      simp
    unfold tallystickref16_Find.l0
    rw [if_pos (by omega), if_pos (by omega), hrd]
    by_cases hsm : (f.f0.size : Int) < 1
    · rw [if_pos hsm]
      exact skip (not_c _ hsm)
    · rw [if_neg hsm, if_pos (by omega), first_c f.f0 hsm]
      cases hc : hasC f.f0 with
      | false => exact skip hc
      | true =>
        show tallystickref16_Find.j1 (k + 1) out (i : Int) false a0 l a b c f.f0 f.f1 f.f2 = _
        unfold tallystickref16_Find.j1
        rw [if_neg (by decide), of_ref f.f1 a b c hsz, Option.bind_some, hnx, List.flatMap_cons, pickC_yes hc, pick_def a b c f]
        by_cases h0 : (ofF f.f1 a b c).2.2.2.2.2.2 = 0
        · rw [if_pos h0, if_pos h0, name_small k _ _ hr.1 hr.2.1 (by omega), Option.bind_some]
          by_cases hn : (YtbpobnlkfpjijaaDoorR.nameS (ofF f.f1 a b c).1 (ofF f.f1 a b c).2.1).toList = f.f0.toList
          · rw [if_pos hn, if_pos hn, if_pos (by omega), go1 _ (by simp; omega)]
            simp [partOf]
          · rw [if_neg hn, if_neg hn, go1 _ (by omega)]
            simp
        · rw [if_neg h0, if_neg h0, go1 _ (by omega)]
          simp
theorem flat_filter (a b c : Int) : ∀ l : List S41, (cFiles l).flatMap (pick a b c) = l.flatMap (pickC a b c)
  | [] => rfl
  | f :: l => by
    have ih := flat_filter a b c l
    unfold cFiles at ih ⊢
    cases hc : hasC f.f0 with
    | true => rw [List.filter_cons_of_pos (p := fun f : S41 => hasC f.f0) hc, List.flatMap_cons, List.flatMap_cons, pickC_yes hc, ih]
    | false => rw [List.filter_cons_of_neg (p := fun f : S41 => hasC f.f0) (by rw [hc]; decide), List.flatMap_cons, pickC_no hc, ih, List.nil_append]
theorem same_loop (l : List Int) (hl : l.length ≤ 4096) : ∀ (d i k : Nat), i + d = l.length → d < k → tallystickref04_Same.l0 k l l (i : Int) = some true
  | d, i, 0, _, hk => by omega
  | 0, i, k + 1, hi, _ => by
    unfold tallystickref04_Same.l0
    rw [if_neg (by omega)]
  | d + 1, i, k + 1, hi, hk => by
    unfold tallystickref04_Same.l0
    rw [if_pos (by omega), if_pos (by omega), if_pos (by omega), if_pos rfl, wrap_nat i (by omega)]
    exact same_loop l hl d (i + 1) k (by omega) (by omega)
theorem same_refl (k : Nat) (l : List Int) (hl : l.length ≤ 4096) (hk : 4097 ≤ k) : tallystickref04_Same.f k l l = some true := by
  unfold tallystickref04_Same.f
  rw [if_pos rfl]
  exact same_loop l hl l.length 0 k (by omega) (by omega)
theorem samePart_refl (k : Nat) (f t : Int) (P Q R : List Int) (m : Bool) (hP : P.length ≤ 4096) (hQ : Q.length ≤ 4096) (hR : R.length ≤ 4096) (hk : 4097 ≤ k) : tallystickref14_SamePart.f k f t P Q R m f t P Q R m = some true := by
  unfold tallystickref14_SamePart.f
  rw [same_refl k P hP hk, same_refl k Q hQ hk, same_refl k R hR hk]
  simp
theorem parts_loop (l : List S45) (hl : l.length ≤ 64) (hp : ∀ p ∈ l, p.f1.length ≤ 4096 ∧ p.f2.length ≤ 4096 ∧ p.f3.length ≤ 4096) : ∀ (d i k : Nat), i + d = l.length → d + 4100 < k → tallystickref16_Parts.l0 k l l (i : Int) = some true
  | d, i, 0, _, hk => by omega
  | 0, i, k + 1, hi, _ => by
    unfold tallystickref16_Parts.l0
    rw [if_neg (by omega)]
  | d + 1, i, k + 1, hi, hk => by
    have hlt : i < l.length := by omega
    have hrd : rd_T45 l (i : Int) = l[i] := by simp [rd_T45, List.getD_eq_getElem?_getD, List.getElem?_eq_getElem hlt]
    have h := hp l[i] (List.getElem_mem hlt)
    unfold tallystickref16_Parts.l0
    rw [if_pos (by omega), if_pos (by omega), if_pos (by omega), hrd, samePart_refl k _ _ _ _ _ _ h.1 h.2.1 h.2.2 (by omega), Option.bind_some, if_pos rfl, wrap_nat i (by omega)]
    exact parts_loop l hl hp d (i + 1) k (by omega) (by omega)
theorem flat_len (a b c : Int) : ∀ l : List S41, (l.flatMap (pick a b c)).length ≤ l.length
  | [] => by simp
  | f :: l => by
    have ih := flat_len a b c l
    have h := pick_len a b c f
    rw [List.flatMap_cons, List.length_append, List.length_cons]
    omega
/-- KeepFinds holds, where the texts are not too long. -/
theorem keepFinds_true (k : Nat) (hk : 10000 ≤ k) (a0 : Int) (l : List S41) (a b c : Int) (hd : ∀ x ∈ l, x.f1.size ≤ 140737488351232) : tallysticklaw16_KeepFinds.f k a0 l a b c = some true := by
  unfold tallysticklaw16_KeepFinds.f tallysticklaw16_shown.f
  obtain ⟨r, h1, h2⟩ := right_is a0 l
  rw [Option.bind_some, h1 k (by omega), Option.bind_some, if_pos rfl]
  cases r with
  | false => rw [if_neg (by decide)]
  | true =>
    obtain ⟨_, hl, _, hs⟩ := h2.1 rfl
    rw [if_pos rfl]
    have hcl : (cFiles l).length ≤ 64 := Nat.le_trans (List.length_filter_le _ _) hl
    have e1 : keep_Find.f k a0 l a b c = some ((cFiles l).flatMap (pick a b c)) := by
      unfold keep_Find.f disk_List.f
      rw [if_pos ⟨rfl, by omega⟩, Option.bind_some, beg_all]
      exact keep_loop a0 l a b c hs hl hd (cFiles l).length 0 [] k (by omega) (by omega) (Nat.le_refl _)
    have e2 : tallystickref16_Find.f k a0 l a b c = some ((cFiles l).flatMap (pick a b c)) := by
      unfold tallystickref16_Find.f
      rw [flat_filter]
      exact ref_loop a0 l a b c hl hd l.length 0 [] k (by omega) (by omega) (Nat.le_refl _)
    rw [e1, Option.bind_some, e2, Option.bind_some]
    obtain ⟨R, hR⟩ : ∃ R, (cFiles l).flatMap (pick a b c) = R := ⟨_, rfl⟩
    have hRl : R.length ≤ 64 := by rw [← hR]; exact Nat.le_trans (flat_len a b c _) hcl
    have hRp : ∀ p ∈ R, p.f1.length ≤ 4096 ∧ p.f2.length ≤ 4096 ∧ p.f3.length ≤ 4096 := by
      rw [← hR]
      intro p hp
      obtain ⟨f, _, hf⟩ := List.mem_flatMap.1 hp
      exact pick_small a b c f p hf
    rw [hR]
    have e3 : tallystickref16_Parts.f k R R = some true := by
      unfold tallystickref16_Parts.f
      rw [if_pos rfl]
      exact parts_loop R hRl hRp R.length 0 k (by omega) (by omega)
    rw [e3, Option.bind_some]
end Go.Proofs.YtbpobnlkfpjijaaDoorR.Pr
end
-- Od
section
namespace Go.Proofs.YtbpobnlkfpjijaaDoorR.Pr
open Go.RowKit Go.Proofs.YtbpobnlkfpjijaaDoorRW.PrintWords Go.Proofs.YtbpobnlkfpjijaaDoorRW.PrintLast Go.Proofs.YtbpobnlkfpjijaaDoorRW.PrintMore
set_option linter.unusedVariables false
set_option linter.unusedSimpArgs false
def Opens (P : Program) (t : TypeId) {α : Type} (d : Kd α) (G : α → Prop) : Prop :=
  ∀ (H : Type) (enc : TypeId × Value → H) (w : World) (fuel : Nat) (cs : List Value) (x : DataW H × List MemPlace), DataW.trod enc P w 0 (fun _ => true) true fuel t cs = some x → (∀ n ∈ x.1.weights P t, n ≤ 140737488351232) → ∃ y, d.K w y cs ∧ G y
theorem opens_string {P : Program} {t : TypeId} (ht : P.underlying t = some .string) : Opens P t Kd.string (fun s => s.size ≤ 140737488351232) := by
  intro H enc w fuel cs x h hw
  obtain ⟨s, rfl, rfl, _⟩ := DataW.trod_string ht h
  refine ⟨s, rfl, ?_⟩
  have := hw s.data.toList.length (by simp [DataW.weights])
  show s.size ≤ 140737488351232
  rw [Array.length_toList] at this
  exact this
theorem opens_int {P : Program} {t : TypeId} {k : IntKind} (ht : P.underlying t = some (.int k)) : Opens P t (Kd.int k) (fun n => (Lit.int k n).wf = true) := by
  intro H enc w fuel cs x h _
  obtain ⟨n, rfl, rfl, hw⟩ := DataW.trod_int ht h
  exact ⟨n, rfl, hw⟩
theorem weightsAll_mem {H : Type} {P : Program} {e : TypeId} {d : DataW H} : ∀ {l : List (DataW H)}, d ∈ l → ∀ n ∈ d.weights P e, n ∈ DataW.weightsAll P e l
  | x :: l, h, n, hn => by
    simp only [DataW.weightsAll, List.mem_append]
    rcases List.mem_cons.1 h with rfl | h
    · exact .inl hn
    · exact .inr (weightsAll_mem h n hn)
theorem opens_slice {P : Program} {t e : TypeId} {α : Type} {d : Kd α} {G : α → Prop} (ht : P.underlying t = some (.slice e)) (hd : Opens P e d G) (hc : d.sz = P.cellsOf e) :
    Opens P t (Kd.slice e d) (fun l => l.length * P.bytesOf e ≤ 140737488351232 ∧ ∀ y ∈ l, G y) := by
  intro H enc w fuel cs x h hw
  rcases DataW.trod_slice ht h with ⟨rfl, rfl⟩ | ⟨a, len, cap, elems, rest, n, _, rfl, rfl, hb, hl, hm, hlen, hel, _, _⟩
  · exact ⟨[], ⟨none, 0, rfl, Nat.le_refl _, Kd.C_nil _ _⟩, by simp, by simp⟩
  · have hw1 : ∀ n ∈ (DataW.slice (elems.map (·.1)) (rest.map (·.1))).weights P t, n ≤ 140737488351232 := hw
    simp only [DataW.weights, ht, List.mem_cons, List.mem_append, List.length_map] at hw1
    have hel2 : ∀ i (hi : i < elems.length), ∃ y, ∃ c, w.cells? 0 (a.add (i * P.cellsOf e)) (P.cellsOf e) = some c ∧ d.K w y c ∧ G y := by
      intro i hi
      have := hel i (by omega)
      rw [List.getElem?_eq_getElem hi, Option.bind_eq_some_iff] at this
      obtain ⟨c, hc1, hc2⟩ := this
      obtain ⟨y, hy, hg⟩ := hd H enc w n c _ hc2 (fun m hm => hw1 m (.inr (.inl (weightsAll_mem (List.mem_map_of_mem (List.getElem_mem hi)) m hm))))
      exact ⟨y, c, hc1, hy, hg⟩
    let f : Fin elems.length → α := fun i => Classical.choose (hel2 i.1 i.2)
    have hf : ∀ i : Fin elems.length, ∃ c, w.cells? 0 (a.add (i.1 * P.cellsOf e)) (P.cellsOf e) = some c ∧ d.K w (f i) c ∧ G (f i) := fun i => Classical.choose_spec (hel2 i.1 i.2)
    have hfl : (List.ofFn f).length = elems.length := List.length_ofFn
    refine ⟨List.ofFn f, ⟨some a, cap, by rw [hfl, hlen], by omega, by omega, ?_, fun _ => ⟨a, rfl, ?_⟩⟩, ?_, ?_⟩
    · have : maxLen ≤ 9223372036854775807 := by unfold maxLen; omega
      omega
    · intro j p hp
      obtain ⟨hj, hp⟩ := List.getElem?_eq_some_iff.1 hp
      rw [List.getElem_ofFn] at hp
      obtain ⟨c, hc1, hK, _⟩ := hf ⟨j, by omega⟩
      rw [hp] at hK
      obtain ⟨_, hcl, hcell⟩ := World.cells?_some hc1
      refine ⟨c, by omega, hK, fun i u hu => ?_⟩
      have hi := (List.getElem?_eq_some_iff.1 hu).1
      rw [hc, ← Addr.add_add, hcell i (by omega)]
      exact hu
    · have := hw1 _ (.inl rfl)
      rw [hfl]
      exact Nat.le_trans (Nat.mul_le_mul_right _ (by omega)) this
    · intro y hy
      obtain ⟨j, hj, hy⟩ := List.getElem_of_mem hy
      rw [List.getElem_ofFn] at hy
      obtain ⟨c, _, _, hG⟩ := hf ⟨j, by omega⟩
      rw [hy] at hG
      exact hG
theorem cells9 : Tryd.prog.cellsOf 9 = 1 := by kernel_rfl
theorem cells3 : Tryd.prog.cellsOf 3 = 1 := by kernel_rfl
theorem cells27 : Tryd.prog.cellsOf 27 = 1 := by kernel_rfl
theorem cells29 : Tryd.prog.cellsOf 29 = 2 := by kernel_rfl
theorem cells41 : Tryd.prog.cellsOf 41 = 3 := by kernel_rfl
theorem bytes41 : Tryd.prog.bytesOf 41 = 48 := by kernel_rfl
def G41 (y : S41) : Prop := y.f0.size ≤ 140737488351232 ∧ y.f1.size ≤ 140737488351232 ∧ y.f2.size ≤ 140737488351232
theorem opens41 : Opens Tryd.prog 41 k41 G41 := by
  intro H enc w fuel cs x h hw
  obtain ⟨xs, n, rfl, rfl, hl, hxs, hf⟩ := DataW.trod_struct Tryd.underlying41 h
  rw [cells41] at hl
  obtain ⟨c0, c1, c2, rfl⟩ : ∃ c0 c1 c2, cs = [c0, c1, c2] := by
    rcases cs with _ | ⟨c0, _ | ⟨c1, _ | ⟨c2, _ | ⟨c3, cs⟩⟩⟩⟩ <;> simp at hl
    exact ⟨_, _, _, rfl⟩
  obtain ⟨x0, x1, x2, rfl⟩ : ∃ x0 x1 x2, xs = [x0, x1, x2] := by
    rcases xs with _ | ⟨c0, _ | ⟨c1, _ | ⟨c2, _ | ⟨c3, cs⟩⟩⟩⟩ <;> simp at hxs
    exact ⟨_, _, _, rfl⟩
  have h0 : DataW.trod enc Tryd.prog w 0 (fun _ => true) true n 9 ((List.drop 0 [c0, c1, c2]).take (Tryd.prog.cellsOf 9)) = some x0 := hf 0 _ rfl
  rw [cells9] at h0
  simp only [List.drop_zero, List.drop_succ_cons, List.take_succ_cons, List.take_zero] at h0
  have h1 : DataW.trod enc Tryd.prog w 0 (fun _ => true) true n 9 ((List.drop 1 [c0, c1, c2]).take (Tryd.prog.cellsOf 9)) = some x1 := hf 1 _ rfl
  rw [cells9] at h1
  simp only [List.drop_zero, List.drop_succ_cons, List.take_succ_cons, List.take_zero] at h1
  have h2 : DataW.trod enc Tryd.prog w 0 (fun _ => true) true n 9 ((List.drop 2 [c0, c1, c2]).take (Tryd.prog.cellsOf 9)) = some x2 := hf 2 _ rfl
  rw [cells9] at h2
  simp only [List.drop_zero, List.drop_succ_cons, List.take_succ_cons, List.take_zero] at h2
  have hw1 : ∀ n ∈ (DataW.agg [x0.1, x1.1, x2.1]).weights Tryd.prog 41, n ≤ 140737488351232 := hw
  simp only [DataW.weights, Tryd.underlying41, DataW.weightsEach, List.map_cons, List.map_nil, List.mem_append] at hw1
  obtain ⟨s0, e0, g0⟩ := opens_string Tryd.underlying9 H enc w n _ _ h0 (fun m hm => hw1 m (.inl hm))
  obtain ⟨s1, e1, g1⟩ := opens_string Tryd.underlying9 H enc w n _ _ h1 (fun m hm => hw1 m (.inr (.inl hm)))
  obtain ⟨s2, e2, g2⟩ := opens_string Tryd.underlying9 H enc w n _ _ h2 (fun m hm => hw1 m (.inr (.inr (.inl hm))))
  cases e0; cases e1; cases e2
  exact ⟨⟨s0, s1, s2⟩, k41_mk w ⟨s0, s1, s2⟩, g0, g1, g2⟩
theorem opens27 : Opens Tryd.prog 27 (Kd.slice 41 k41) (fun l => l.length * 48 ≤ 140737488351232 ∧ ∀ z ∈ l, G41 z) := by
  have := opens_slice Tryd.underlying27 opens41 (by rw [cells41]; rfl)
  rw [bytes41] at this
  exact this
/-- What reading a Disk tells. -/
theorem open_disk {H : Type} {enc : TypeId × Value → H} {w : World} {fuel : Nat} {cs : List Value} {x : DataW H × List MemPlace} (h : DataW.trod enc Tryd.prog w 0 (fun _ => true) true fuel 29 cs = some x) (hw : ∀ n ∈ x.1.weights Tryd.prog 29, n ≤ 140737488351232) :
    ∃ (a : Int) (A : Option Addr) (c : Nat) (l : List S41), cs = [.int .i64 a, .slice A l.length c] ∧ l.length ≤ c ∧ Kd.C k41 w A l.length l ∧ ∀ z ∈ l, G41 z := by
  obtain ⟨xs, n, rfl, rfl, hl, hxs, hf⟩ := DataW.trod_struct Tryd.underlying29 h
  rw [cells29] at hl
  obtain ⟨c0, c1, rfl⟩ : ∃ c0 c1, cs = [c0, c1] := by
    rcases cs with _ | ⟨c0, _ | ⟨c1, _ | ⟨cz, cs⟩⟩⟩ <;> simp at hl
    exact ⟨_, _, rfl⟩
  obtain ⟨x0, x1, rfl⟩ : ∃ x0 x1, xs = [x0, x1] := by
    rcases xs with _ | ⟨c0, _ | ⟨c1, _ | ⟨cz, cs⟩⟩⟩ <;> simp at hxs
    exact ⟨_, _, rfl⟩
  have h0 : DataW.trod enc Tryd.prog w 0 (fun _ => true) true n 3 ((List.drop 0 [c0, c1]).take (Tryd.prog.cellsOf 3)) = some x0 := hf 0 _ rfl
  rw [cells3] at h0
  simp only [List.drop_zero, List.drop_succ_cons, List.take_succ_cons, List.take_zero] at h0
  have h1 : DataW.trod enc Tryd.prog w 0 (fun _ => true) true n 27 ((List.drop 1 [c0, c1]).take (Tryd.prog.cellsOf 27)) = some x1 := hf 1 _ rfl
  rw [cells27] at h1
  simp only [List.drop_zero, List.drop_succ_cons, List.take_succ_cons, List.take_zero] at h1
  have hw1 : ∀ n ∈ (DataW.agg [x0.1, x1.1]).weights Tryd.prog 29, n ≤ 140737488351232 := hw
  simp only [DataW.weights, Tryd.underlying29, DataW.weightsEach, List.map_cons, List.map_nil, List.mem_append] at hw1
  obtain ⟨s0, e0, g0⟩ := opens_int Tryd.underlying3 H enc w n _ _ h0 (fun m hm => hw1 m (.inl hm))
  obtain ⟨s1, e1, g1⟩ := opens27 H enc w n _ _ h1 (fun m hm => hw1 m (.inr (.inl hm)))
  obtain ⟨A, c, e, l, g⟩ := e1
  cases e0; cases e
  exact ⟨s0, A, c, s1, rfl, l, g, g1.2⟩
theorem cells31 : Tryd.prog.cellsOf 31 = 3 := by kernel_rfl
/-- What reading a Job tells. -/
theorem open_job {H : Type} {enc : TypeId × Value → H} {w : World} {fuel : Nat} {cs : List Value} {x : DataW H × List MemPlace} (h : DataW.trod enc Tryd.prog w 0 (fun _ => true) true fuel 31 cs = some x) :
    ∃ a b c : Int, cs = [.int .i64 a, .int .i64 b, .int .i64 c] := by
  obtain ⟨xs, n, rfl, rfl, hl, hxs, hf⟩ := DataW.trod_struct Tryd.underlying31 h
  rw [cells31] at hl
  obtain ⟨c0, c1, c2, rfl⟩ : ∃ c0 c1 c2, cs = [c0, c1, c2] := by
    rcases cs with _ | ⟨c0, _ | ⟨c1, _ | ⟨c2, _ | ⟨c3, cs⟩⟩⟩⟩ <;> simp at hl
    exact ⟨_, _, _, rfl⟩
  obtain ⟨x0, x1, x2, rfl⟩ : ∃ x0 x1 x2, xs = [x0, x1, x2] := by
    rcases xs with _ | ⟨c0, _ | ⟨c1, _ | ⟨c2, _ | ⟨c3, cs⟩⟩⟩⟩ <;> simp at hxs
    exact ⟨_, _, _, rfl⟩
  have h0 : DataW.trod enc Tryd.prog w 0 (fun _ => true) true n 3 ((List.drop 0 [c0, c1, c2]).take (Tryd.prog.cellsOf 3)) = some x0 := hf 0 _ rfl
  rw [cells3] at h0
  simp only [List.drop_zero, List.drop_succ_cons, List.take_succ_cons, List.take_zero] at h0
  have h1 : DataW.trod enc Tryd.prog w 0 (fun _ => true) true n 3 ((List.drop 1 [c0, c1, c2]).take (Tryd.prog.cellsOf 3)) = some x1 := hf 1 _ rfl
  rw [cells3] at h1
  simp only [List.drop_zero, List.drop_succ_cons, List.take_succ_cons, List.take_zero] at h1
  have h2 : DataW.trod enc Tryd.prog w 0 (fun _ => true) true n 3 ((List.drop 2 [c0, c1, c2]).take (Tryd.prog.cellsOf 3)) = some x2 := hf 2 _ rfl
  rw [cells3] at h2
  simp only [List.drop_zero, List.drop_succ_cons, List.take_succ_cons, List.take_zero] at h2
  obtain ⟨a, e0, _, _⟩ := DataW.trod_int Tryd.underlying3 h0
  obtain ⟨b, e1, _, _⟩ := DataW.trod_int Tryd.underlying3 h1
  obtain ⟨c, e2, _, _⟩ := DataW.trod_int Tryd.underlying3 h2
  cases e0; cases e1; cases e2
  exact ⟨a, b, c, rfl⟩
end Go.Proofs.YtbpobnlkfpjijaaDoorR.Pr
end
-- Kf
section
namespace Go.Proofs.YtbpobnlkfpjijaaDoorR.keepFinds
open Go.ChangeShapes Go.WideShapes Go.ChangeAt Go.RowKit
set_option linter.unusedVariables false
set_option linter.unusedSimpArgs false
theorem own : ownKnob Tryd.prog.godebug = none := by kernel_rfl
theorem laidOut : laidOutB Tryd.prog = true := by kernel_rfl
abbrev lay : List (String × DataW Unit) := [("math/bits.deBruijn32tab", Rows.laid_math_bits_deBruijn32tab), ("math/bits.deBruijn64tab", Rows.laid_math_bits_deBruijn64tab), ("internal/strconv.uint64pow10", Rows.laid_internal_strconv_uint64pow10), ("errors.errorType", Rows.laid_errors_errorType)]
theorem door_met (os : Os) (args : Array Value) : laidMetH Tryd.prog lay ((World.doorLaid Tryd.prog 4000 os).forCall (fun _ _ => 0) ⟨#[], args, []⟩).memory :=
  laidMetH_of_parts3 (fuel := 8) (laidMet_of_run' 8 (by kernel_rfl) (by kernel_rfl)) (by kernel_rfl) (by kernel_rfl)
abbrev lay3 : List (String × DataW Unit) := [("math/bits.deBruijn32tab", Rows.laid_math_bits_deBruijn32tab), ("math/bits.deBruijn64tab", Rows.laid_math_bits_deBruijn64tab), ("internal/strconv.uint64pow10", Rows.laid_internal_strconv_uint64pow10)]
abbrev layH : List (String × DataW Unit) := [("errors.errorType", Rows.laid_errors_errorType)]
theorem lay_two (W : World) : laidMetH Tryd.prog lay W = (laidMet Tryd.prog lay3 W ∧ handlesMet Tryd.prog layH W) := by kernel_rfl
theorem tb_of {W : World} (h : laidMet Tryd.prog lay3 W) : Tb W := by
  obtain ⟨ps, ⟨g0, t0, cs0, f0, p0, q0, hg0, ht0, hv0, hd0, ⟨g1, t1, cs1, f1, p1, q1, hg1, ht1, hv1, hd1, ⟨g2, t2, cs2, f2, p2, q2, hg2, ht2, hv2, hd2, _, _⟩, _⟩, _⟩, _, _⟩ := h
  obtain rfl := Option.some.inj (gPow.symm.trans hg2)
  obtain rfl := Option.some.inj ((show (Tryd.prog.globals[1]?).map (·.type) = some 131 by kernel_rfl).symm.trans ht2)
  unfold Tb Lib.TabIs
  rw [hv2, ← Lib.cells_of_tab (k := .u64) (zs := Lib.pow10Tab) Tryd.underlying131 Tryd.underlying79 (by kernel_rfl) (by kernel_rfl) hd2]
theorem one_error : (List.range Tryd.prog.types.size).all (fun t => !Tryd.prog.rowNamed t [101, 114, 114, 111, 114] || t == 74) = true := by kernel_rfl
theorem et_of {W : World} (h : handlesMet Tryd.prog layH W) : W.cell? ⟨0, 0, none⟩ = some (.iface 137 (.agg #[.pointer (some ⟨5, 74, none⟩)])) := by
  have h1 : ∃ name u ty, (Rows.laid_errors_errorType (H := Unit)).handleName? = some name ∧ (Tryd.prog.cutTypes.find? (·.1 == "internal/reflectlite.rtype")).map (·.2) = some u ∧ ty < Tryd.prog.types.size ∧ Tryd.prog.rowNamed ty name = true ∧
      W.var? Tryd.prog "errors.errorType" = some #[.iface u (.agg #[typeHandle Tryd.prog ty])] := h ("errors.errorType", Rows.laid_errors_errorType) (List.mem_singleton.2 rfl)
  obtain ⟨name, u, ty, hn, hu, hlt, hrow, hv⟩ := h1
  obtain rfl := Option.some.inj ((show (Rows.laid_errors_errorType (H := Unit)).handleName? = some [101, 114, 114, 111, 114] by kernel_rfl).symm.trans hn)
  obtain rfl := Option.some.inj ((show (Tryd.prog.cutTypes.find? (·.1 == "internal/reflectlite.rtype")).map (·.2) = some 137 by kernel_rfl).symm.trans hu)
  have h74 : ty = 74 := by
    have h2 : (!Tryd.prog.rowNamed ty [101, 114, 114, 111, 114] || ty == 74) = true := List.all_eq_true.1 one_error ty (List.mem_range.2 hlt)
    rw [hrow, Bool.not_true, Bool.false_or] at h2
    exact beq_iff_eq.1 h2
  subst h74
  rw [show typeHandle Tryd.prog 74 = .pointer (some ⟨5, 74, none⟩) by kernel_rfl] at hv
  unfold World.var? at hv
  rw [show Tryd.prog.globalNamed "errors.errorType" = some 0 by kernel_rfl, Option.bind_some] at hv
  split at hv
  · rename_i cs t m he
    have hb : W.heap[0]? = some (.cells #[.iface 137 (.agg #[.pointer (some ⟨5, 74, none⟩)])] t m) := by rw [he, Option.some.inj hv]
    simp only [World.cell?, hb]
    rfl
  · exact nomatch hv
theorem of_laid {W : World} (h : laidMetH Tryd.prog lay W) : Pr.TbC W := by
  rw [lay_two] at h
  exact ⟨tb_of h.1, et_of h.2⟩
set_option maxRecDepth 100000 in
set_option maxHeartbeats 4000000 in
theorem lifted (os : Os) (started : os.Started) (H : Type) (enc : TypeId × Value → H) :
    ReturnsInHanded {} Tryd.checked os 4 .any (fun w args => (Rows.keepFindsSpec.pre enc Tryd.prog Tryd.f4 [] false w args ∧ laidMetH Tryd.prog lay w) ∧ sizedMet enc Tryd.prog Tryd.f4 (OpenSpec.ofChange Rows.keepFindsSpec) false w args)
      (Rows.keepFindsSpec.post enc Tryd.prog Tryd.f4 false true false false) := by
  refine returnsInHanded_of_change_and (C := Tryd.checked) (X := fun w _ => laidMetH Tryd.prog lay w) (fun _ _ _ hh h => h.of_heap hh) own started (by kernel_rfl) Tryd.func4
    (ChangeSpec.witness_shaped (enc := enc) (C := Tryd.checked) (os := os) (X := fun w _ => laidMetH Tryd.prog lay w) false (World.doorLaid Tryd.prog 4000 os) #[.agg #[.int .i64 0, .slice none 0 0], .agg #[.int .i64 0, .int .i64 0, .int .i64 0]] 8 rfl (World.shaped_of_RefB (by kernel_rfl) (by kernel_rfl)) (by kernel_rfl) (by kernel_rfl) (by kernel_rfl) (door_met os _)) ?_
  intro W base args ds gs before hval0 hW _ hsz0 hL _
  have hsz : (DataW.weightsEach Tryd.prog (Tryd.f4.params.toList ++ Rows.keepFindsSpec.plain.varTypes Tryd.prog) (ds ++ gs)).all (· ≤ reachBytes) = true := hsz0
  have hval : ∀ (j : Nat) t v, Tryd.f4.params[j]? = some t → args[j]? = some v → Value.okWide Tryd.prog W .any base t v := hval0
  have hW' := hW
  obtain ⟨p, q, hA0, hV, rfl, hfz, hnd⟩ := hW
  have hA : DataW.TrodAll enc Tryd.prog W 0 (fun _ => true) true Tryd.f4.params.toList args.toList ds p := hA0
  rw [Tryd.params4] at hA hval hsz
  obtain ⟨v0, vs0, d0, ds0, p0, q0, hargs, rfl, rfl, h0, r0⟩ := trodAll_cons hA
  obtain ⟨v1, vs1, d1, ds1, p1, q1, rfl, rfl, rfl, h1, r1⟩ := trodAll_cons r0
  obtain ⟨rfl, rfl, rfl⟩ := trodAll_nil r1
  obtain rfl : args = #[v0, v1] := by cases args; simp_all
  obtain ⟨rfl, rfl⟩ := trodVars_none hV
  obtain ⟨cs0, rfl, hcs0⟩ := okWide_struct Tryd.underlying29 (hval 0 29 v0 rfl rfl)
  obtain ⟨cs1, rfl, hcs1⟩ := okWide_struct Tryd.underlying31 (hval 1 31 v1 rfl rfl)
  have k0 := h0
  have lt0 : ∀ x ∈ p0, x.block < W.heap.size := by obtain ⟨m, hm⟩ := k0; exact DataW.trod_lt m _ _ _ hm
  have k1 := h1
  have lt1 : ∀ x ∈ p1, x.block < W.heap.size := by obtain ⟨m, hm⟩ := k1; exact DataW.trod_lt m _ _ _ hm
  obtain ⟨fuel0, hf0⟩ := h0
  obtain ⟨fuel1, hf1⟩ := h1
  have hw0 : ∀ n ∈ d0.weights Tryd.prog 29, n ≤ 140737488351232 := by
    intro n hn
    have h1 := List.all_eq_true.1 hsz n (by
      show n ∈ DataW.weightsEach Tryd.prog (29 :: _) (d0 :: _)
      simp only [DataW.weightsEach, List.mem_append]
      exact .inl hn)
    exact of_decide_eq_true h1
  obtain ⟨a, A, c, l, ea, hc, hC, hG⟩ := Pr.open_disk hf0 hw0
  obtain ⟨x, y, z, ec⟩ := Pr.open_job hf1
  obtain rfl : cs0 = #[.int .i64 a, .slice A l.length c] := by
    apply Array.ext'
    simpa [Value.cells] using ea
  obtain rfl : cs1 = #[.int .i64 x, .int .i64 y, .int .i64 z] := by
    apply Array.ext'
    simpa [Value.cells] using ec
  clear hA0 hval0 hsz0 hsz
  refine (Pr.tallysticklaw16_KeepFinds.calls 10000 a A c l x y z true W (of_laid hL) hC hc (Pr.keepFinds_true 10000 (Nat.le_refl _) a l x y z (fun f hf => (hG f hf).2.1))).mono fun e W' ⟨he, bel⟩ => ?_
  subst he
  exact ⟨_, rfl, _, _, _, [], _, [], hW', trodAll_mk1 (shut_bool Tryd.underlying4 _), (trodAll_cons_mk (Below.trod laidOut (by kernel_rfl) (of_decide_eq_true (by kernel_rfl)) k0 bel lt0) (trodAll_cons_mk (Below.trod laidOut (by kernel_rfl) (of_decide_eq_true (by kernel_rfl)) k1 bel lt1) trodAll_mk0)), rfl, bel.frame _, fun h => by cases h⟩
theorem proved : Rows.KeepFindsSaid :=
  OpenClaim.holds_of_wide 4 Tryd.f4 rfl rfl rfl rfl rfl rfl rfl ⟨rfl, rfl, rfl, rfl, rfl⟩ rfl rfl rfl rfl rfl (by kernel_rfl) Tryd.func4 (by kernel_rfl)
    (of_decide_eq_true (by kernel_rfl)) (by unfold Func.isWrapper; first | (rw [if_pos (by decide +kernel)]; kernel_rfl) | (rw [if_neg (by decide +kernel)]; exact ⟨rfl, rfl⟩))
    (fun os started H enc _ => lifted os started H enc)
end Go.Proofs.YtbpobnlkfpjijaaDoorR.keepFinds
end
