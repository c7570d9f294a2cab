-- Laid by a program (wip/merge.py): texts of this claim, one behind the other.
import Derived.Test.YtbpobnlkfpjijaaDoorRY3
import Derived.Laws.Cover1
import Derived.Lib.Hide
import Derived.RangeFuncNested
import Derived.RangeFuncBound
import Derived.RangeFuncCalls
import Derived.RangeFuncLeaves
import Derived.RangeFuncBox
import Derived.Maps.AppendAt
import Derived.Shelf.Abstract
import Derived.Shelf.RegionOpen
import Derived.WalkKit
import Derived.OwnWalkIn
import Derived.TacticsInMore
import Derived.LoopNIn
import Derived.LoopIn
-- Gb
section
namespace Go.Proofs.YtbpobnlkfpjijaaDoorR.Pr
open Go.RowKit Go.Proofs.YtbpobnlkfpjijaaDoorRW.PrintWords Go.Proofs.YtbpobnlkfpjijaaDoorRW.PrintLast Go.Proofs.YtbpobnlkfpjijaaDoorRW.PrintMore
set_option linter.unusedVariables false
set_option linter.unusedSimpArgs false
attribute [local go_sem] max2_int min2_int max_two min_two max_three min_three max_four min_four Go.Proofs.Aid.cell_set_row
/-- Is a name not below s? -/
def nameGe (s x : ByteArray) : Bool := !(Op.bytesLess x.toList s.toList)
theorem at1_calls (x0 x1 x2 s : ByteArray) (B : Nat) (w : World) (hs : w.cell? ⟨B, 0, none⟩ = some (.string s)) :
    Calls Tryd.prog 35 #[.agg #[.string x0, .string x1, .string x2], .pointer (some ⟨B, 0, none⟩)] w fun e w' => e = .returned (.bool (nameGe s x0)) ∧ Below w.heap.size w w' := by
  have hB := World.block_lt_of_cell? w _ hs
  have hs2 : (w.alloc (.cells #[.string x0, .string x1, .string x2] 41)).cell? ⟨B, 0, none⟩ = some (.string s) := by
    rw [World.cell?_alloc_lt _ _ _ hB]; exact hs
  go_enter Tryd.func35, Tryd.ntmps35
  go_wp2
  go_ret
  exact ⟨rfl, below_alloc (Below.refl _ _) _⟩
/-- From i on: the first place of a name not below s, or -1. -/
def firstGe (s : ByteArray) : List S41 → Nat → Int
  | [], _ => -1
  | x :: l, i => if nameGe s x.f0 then (i : Int) else firstGe s l (i + 1)
theorem rd_drop (l : List S41) (k : Nat) (h : k < l.length) : l.drop k = rd_T41 l (k : Int) :: l.drop (k + 1) := by
  rw [List.drop_eq_getElem_cons h]
  simp [rd_T41, List.getD_eq_getElem?_getD, List.getElem?_eq_getElem h]
set_option maxRecDepth 100000 in
set_option maxHeartbeats 2000000 in
theorem indexFunc_calls (A : Option Addr) (c : Nat) (l : List S41) (s : ByteArray) (B : Nat) (w : World) (hC : Kd.C k41 w A l.length l) (hc : l.length ≤ c) (hs : w.cell? ⟨B, 0, none⟩ = some (.string s)) :
    Calls Tryd.prog 34 #[.slice A l.length c, .func (.func 35) #[] #[.pointer (some ⟨B, 0, none⟩)]] w fun e w' => e = .returned (.int .i64 (firstGe s l 0)) ∧ Below w.heap.size w w' := by
  have hm : l.length ≤ 9223372036854775807 := hC.2.1
  have hB := World.block_lt_of_cell? w _ hs
  go_enter Tryd.func34, Tryd.ntmps34
  go_wp2
  go_loopw [8] (fun i wr => ∃ k : Nat, k ≤ l.length ∧ i = .int .i64 k ∧ firstGe s l 0 = firstGe s (l.drop k) k ∧ Below w.heap.size w wr) (fun i _ => l.length - (intOf i).toNat)
  case atStart => exact ⟨0, Nat.zero_le _, rfl, rfl, Below.refl _ _⟩
  case round =>
    obtain ⟨k, hk, rfl, he, hb⟩ := hrel
    by_cases hlt : k < l.length
    · obtain ⟨ad, rfl, hx0, hx1, hx2⟩ := at_T41 hC (k : Int) (by omega) (by omega)
      rw [Int.toNat_natCast] at hx0 hx1 hx2
      replace hx0 := (hb.cell (World.block_lt_of_cell? w _ hx0)).trans hx0
      replace hx1 := (hb.cell (World.block_lt_of_cell? w _ hx1)).trans hx1
      replace hx2 := (hb.cell (World.block_lt_of_cell? w _ hx2)).trans hx2
      have hs2 := (hb.cell hB).trans hs
      rw [rd_drop l k hlt] at he
      have HE := Lib.hid he
      clear he
      cases hg : nameGe s (rd_T41 l (k : Int)).f0 with
      | true =>
        have HG := Lib.hid hg
        clear hg
        go_wp2_with fail
        refine (at1_calls _ _ _ s B wr hs2).mono ?_
        rw [HG.out]
        rintro e w1 ⟨rfl, hb1⟩
        go_wp2
        go_ret
        exact ⟨by rw [HE.out]; unfold firstGe; rw [if_pos HG.out]; rfl, below_then hb hb.size hb1⟩
      | false =>
        have HG := Lib.hid hg
        clear hg
        go_wp2_with fail
        refine (at1_calls _ _ _ s B wr hs2).mono ?_
        rw [HG.out]
        rintro e w1 ⟨rfl, hb1⟩
        go_wp2
        go_roundw
        case rel => exact ⟨k + 1, by omega, by go_num, by rw [HE.out]; conv => lhs; unfold firstGe; rw [if_neg (by rw [HG.out]; decide)], below_then hb hb.size hb1⟩
        case measure => simp [intOf]; omega
    · obtain rfl : k = l.length := by omega
      rw [List.drop_length] at he
      have HE := Lib.hid he
      clear he
      go_wp2
      go_ret
      exact ⟨by rw [HE.out]; rfl, hb⟩
theorem firstGe_range (s : ByteArray) : ∀ (l : List S41) (i : Nat), firstGe s l i = -1 ∨ ((i : Int) ≤ firstGe s l i ∧ firstGe s l i < i + l.length)
  | [], _ => .inl rfl
  | x :: l, i => by
    unfold firstGe
    split
    · exact .inr ⟨Int.le_refl _, by simp only [List.length_cons]; omega⟩
    · rcases firstGe_range s l (i + 1) with h | h
      · exact .inl h
      · exact .inr ⟨by omega, by simp only [List.length_cons]; omega⟩
/-- disk.at: the place of a name, or where it would stand; is it there. -/
def disk_at.f (a0_0 : Int) (l0_1 : List (S41)) (a1 : ByteArray) : Option (Int × Bool) :=
  some (if firstGe a1 l0_1 0 < 0 then ((l0_1.length : Int), false) else (firstGe a1 l0_1 0, (rd_T41 l0_1 (firstGe a1 l0_1 0)).f0.toList == a1.toList))
set_option maxRecDepth 100000 in
set_option maxHeartbeats 4000000 in
theorem disk_at.calls (a0_0 : Int) (A0_1 : Option Addr) (c0_1 : Nat) (l0_1 : List (S41)) (a1 : ByteArray) (r1 : Int) (r2 : Bool) (w : World) (hr0_1 : Kd.C k41 w A0_1 l0_1.length l0_1) (hc0_1 : l0_1.length ≤ c0_1) (h : disk_at.f a0_0 l0_1 a1 = some (r1, r2)) :
    Calls Tryd.prog 24 #[.agg #[.int .i64 a0_0, .slice A0_1 l0_1.length c0_1], .string a1] w fun e w' => e = .returned (.tuple #[.int .i64 r1, .bool r2]) ∧ Below w.heap.size w w' := by
  have hm : l0_1.length ≤ 9223372036854775807 := hr0_1.2.1
  unfold disk_at.f at h
  simp only [Option.some.injEq] at h
  have HR := Lib.hid hr0_1
  clear hr0_1
  rcases firstGe_range a1 l0_1 0 with hf | hf
  · rw [hf] at h
    simp at h
    obtain ⟨rfl, rfl⟩ := h
    have HF := Lib.hid hf
    clear hf
    obtain ⟨W, hW⟩ : ∃ W, (w.alloc (.cells #[.int .i64 a0_0, .slice A0_1 l0_1.length c0_1] 29)).alloc (.cells #[.string a1] 9) = W := ⟨_, rfl⟩
    have hbW : Below w.heap.size w W := by rw [← hW]; exact ((Below.refl _ _).alloc (Nat.le_refl _) _).alloc (by simp) _
    have hd0 : W.cell? ⟨w.heap.size, 0, none⟩ = some (.int .i64 a0_0) := by subst hW; go_simp
    have hd1 : W.cell? ⟨w.heap.size, 1, none⟩ = some (.slice A0_1 l0_1.length c0_1) := by subst hW; go_simp
    have hs1 : W.cell? ⟨w.heap.size + 1, 0, none⟩ = some (.string a1) := by subst hW; go_simp
    have HC := Lib.hid (Kd.C_below HR.out hbW)
    go_enter Tryd.func24, Tryd.ntmps24
    go_wp2_with fail

    clear hW
    refine (indexFunc_calls A0_1 c0_1 l0_1 a1 _ _ HC.out hc0_1 hs1).mono ?_
    rw [HF.out]
    rintro e w1 ⟨rfl, hb1⟩
    have hB1 : Below w.heap.size w w1 := below_then hbW hbW.size hb1
    replace hd0 := (hb1.cell (World.block_lt_of_cell? _ _ hd0)).trans hd0
    replace hd1 := (hb1.cell (World.block_lt_of_cell? _ _ hd1)).trans hd1
    replace hs1 := (hb1.cell (World.block_lt_of_cell? _ _ hs1)).trans hs1
    have HB1 := Lib.hid hB1
    clear hB1 hb1 hbW
    go_wp2
    go_quiet (fail)
    go_wp2
    go_ret2
    exact ⟨by simp, pw_below_drewN HB1.out _⟩
  · obtain ⟨k, hk⟩ := Int.eq_ofNat_of_zero_le (show 0 ≤ firstGe a1 l0_1 0 by omega)
    rw [hk] at h hf
    rw [if_neg (by omega)] at h
    simp only [Prod.mk.injEq] at h
    obtain ⟨rfl, hr2⟩ := h
    have hlt : k < l0_1.length := by omega
    have HF := Lib.hid hk
    clear hk hf
    obtain ⟨ad, rfl, hx0, hx1, hx2⟩ := at_T41 HR.out (k : Int) (by omega) (by omega)
    rw [Int.toNat_natCast] at hx0
    clear hx1 hx2
    have HX := Lib.hid hx0
    clear hx0
    obtain ⟨W, hW⟩ : ∃ W, (w.alloc (.cells #[.int .i64 a0_0, .slice (some ad) l0_1.length c0_1] 29)).alloc (.cells #[.string a1] 9) = W := ⟨_, rfl⟩
    have hbW : Below w.heap.size w W := by rw [← hW]; exact ((Below.refl _ _).alloc (Nat.le_refl _) _).alloc (by simp) _
    have hd0 : W.cell? ⟨w.heap.size, 0, none⟩ = some (.int .i64 a0_0) := by subst hW; go_simp
    have hd1 : W.cell? ⟨w.heap.size, 1, none⟩ = some (.slice (some ad) l0_1.length c0_1) := by subst hW; go_simp
    have hs1 : W.cell? ⟨w.heap.size + 1, 0, none⟩ = some (.string a1) := by subst hW; go_simp
    have HC := Lib.hid (Kd.C_below HR.out hbW)
    go_enter Tryd.func24, Tryd.ntmps24
    go_wp2_with fail

    clear hW
    refine (indexFunc_calls (some ad) c0_1 l0_1 a1 _ _ HC.out hc0_1 hs1).mono ?_
    rw [HF.out]
    rintro e w1 ⟨rfl, hb1⟩
    have hB1 : Below w.heap.size w w1 := below_then hbW hbW.size hb1
    replace hd0 := (hb1.cell (World.block_lt_of_cell? _ _ hd0)).trans hd0
    replace hd1 := (hb1.cell (World.block_lt_of_cell? _ _ hd1)).trans hd1
    replace hs1 := (hb1.cell (World.block_lt_of_cell? _ _ hs1)).trans hs1
    have HB1 := Lib.hid hB1
    clear hB1 hb1 hbW
    have hx := (HB1.out.cell (World.block_lt_of_cell? w _ HX.out)).trans HX.out
    have HR2 := Lib.hid hr2
    clear hr2
    go_wp2
    go_quiet (fail)
    go_wp2
    go_ret2
    exact ⟨by rw [← HR2.out]; simp, pw_below_drewN HB1.out _⟩
end Go.Proofs.YtbpobnlkfpjijaaDoorR.Pr
end
-- Pr37
section
namespace Go.Proofs.YtbpobnlkfpjijaaDoorR.Pr
open Go.RowKit Go.Proofs.YtbpobnlkfpjijaaDoorRW.PrintWords Go.Proofs.YtbpobnlkfpjijaaDoorRW.PrintLast Go.Proofs.YtbpobnlkfpjijaaDoorRW.PrintMore
attribute [local go_sem] max2_int min2_int max_two min_two max_three min_three max_four min_four   -- for this text's walks alone
set_option linter.unusedVariables false
set_option linter.unusedSimpArgs false

attribute [local go_sem] Go.Proofs.Aid.cell_set_row
def disk_Read.f (a0_0 : Int) (l0_1 : List (S41)) (a1 : ByteArray) : Option (ByteArray × Int) := (disk_at.f a0_0 l0_1 a1).bind fun bt137 => (if bt137.2 = true then (if 0 ≤ bt137.1 then (if bt137.1 < (l0_1.length : Int) then (some ((rd_T41 l0_1 bt137.1).f1, 0)) else (none)) else (none)) else (some ((⟨#[]⟩ : ByteArray), 9)))
set_option maxHeartbeats 8000000 in
set_option maxRecDepth 100000 in
theorem disk_Read.calls (a0_0 : Int) (A0_1 : Option Addr) (c0_1 : Nat) (l0_1 : List (S41)) (a1 : ByteArray) (r1 : ByteArray) (r2 : Int) (w : World) (hr0_1 : Kd.C k41 w A0_1 l0_1.length l0_1) (hc0_1 : l0_1.length ≤ c0_1) (h : disk_Read.f a0_0 l0_1 a1 = some (r1, r2)) :
    Calls Tryd.prog 16 #[.agg #[.int .i64 a0_0, .slice A0_1 l0_1.length c0_1], .string a1] w fun e w' => e = .returned (.tuple #[.string r1, .int .i64 r2]) ∧ Below w.heap.size w w' := by
  have hu29 := Tryd.underlying29
  have HR0_1 := Aside0.mk hr0_1
  have HC0_1 := Aside0.mk hc0_1
  clear hr0_1 hc0_1
  have HB := Aside0.mk (Below.refl w.heap.size w)
  have H : ((disk_at.f a0_0 l0_1 a1).bind fun bt137 => (if bt137.2 = true then (if 0 ≤ bt137.1 then (if bt137.1 < (l0_1.length : Int) then (some ((rd_T41 l0_1 bt137.1).f1, 0)) else (none)) else (none)) else (some ((⟨#[]⟩ : ByteArray), 9)))) = some (r1, r2) := h
  clear h
  replace H := Option.bind_eq_some_iff.mp H
  obtain ⟨⟨t137, t138⟩, A30, H⟩ := H
  replace H : (if t138 = true then (if 0 ≤ t137 then (if t137 < (l0_1.length : Int) then (some ((rd_T41 l0_1 t137).f1, 0)) else (none)) else (none)) else (some ((⟨#[]⟩ : ByteArray), 9))) = some (r1, r2) := H
  have A3 := Aside0.mk A30
  clear A30
  by_cases c4 : t138 = true
  · subst c4
    have H1 : (if 0 ≤ t137 then (if t137 < (l0_1.length : Int) then (some ((rd_T41 l0_1 t137).f1, 0)) else (none)) else (none)) = some (r1, r2) := by rw [if_pos rfl] at H; exact H
    clear H
    have H := H1
    clear H1
    by_cases c5 : 0 ≤ t137
    · rw [if_pos c5] at H
      have c5b0 : decide (0 ≤ t137) = true := decide_eq_true c5
      clear c5
      by_cases c6 : t137 < (l0_1.length : Int)
      · rw [if_pos c6] at H
        have c6b0 : decide (t137 < (l0_1.length : Int)) = true := decide_eq_true c6
        clear c6
        simp only [Option.some.injEq, Prod.mk.injEq] at H
        obtain ⟨rfl, rfl⟩ := H
        go_enter Tryd.func16, Tryd.ntmps16
        go_wp2_with (first | ((with_reducible refine gate_dst (N := 2) rfl ?_); refine box_event ?hg (N := 2) ?hd (cs := #[.int .i64 a0_0, .slice A0_1 l0_1.length c0_1]) (t := 29) ?hr ?_; (case hd => rfl); (case hg => rfl); (case hr => first | (go_simp; done) | (go_simp; rfl)); intro gb136 hg w7 hbox hb; have n0_ := Aside0.mk (below_step (by repeat (first | (with_reducible first | exact HB.out | apply below_alloc | apply pw_below_drewN | apply below_drew1) | exact HB.out)) hb); have n1_ := Aside0.mk (hbox); have n2_ := Aside0.mk ((by rw [hg]; exact (below_size (by repeat (first | (with_reducible first | exact HB.out | apply below_alloc | apply pw_below_drewN | apply below_drew1) | exact HB.out))) : w.heap.size ≤ gb136)); have n3_ := Aside0.mk ((by rw [hg]; exact (below_size (by repeat (first | (with_reducible first | exact HB.out | apply below_alloc | apply pw_below_drewN | apply below_drew1) | exact HB.out))) : w.heap.size ≤ gb136)); clear HB; have HB := n0_; have BK136 := n1_; have GW136 := n2_; have GE136 := n3_; clear n0_ n1_ n2_ n3_; clear hb hbox hg; have hcz8_0 : w7.cell? ⟨gb136, 0, none⟩ = some (.int .i64 a0_0) := (blk_cell BK136.out 0).trans rfl; have hcz8_1 : w7.cell? ⟨gb136, 1, none⟩ = some (.slice A0_1 l0_1.length c0_1) := (blk_cell BK136.out 1).trans rfl; have hfz8_0 := blk_frozen BK136.out 0; have hfz8_1 := blk_frozen BK136.out 1) | ((with_reducible refine gate_callee (f := 24) rfl ?_); refine goesL_ (some 11) rfl rfl Tryd.func24 (by kernel_rfl) rfl #[.agg #[.int .i64 a0_0, .slice A0_1 l0_1.length c0_1], .string a1] rfl (by (try simp only [List.map_toArray, List.map_cons, List.map_nil]); first | done | rfl | (simp only [List.length_drop, List.length_take]; rfl)) ?_; (with_reducible refine (disk_at.calls a0_0 _ _ l0_1 a1 t137 true _ ?side1 ?side2 A3.out).mono ?_); (case side1 => repeat (first | exact (Kd.C_below HR0_1.out HB.out) | (with_reducible refine Kd.C_alloc ?_ _) | (with_reducible refine Kd.C_drewN ?_ _) | (with_reducible refine Kd.C_drew ?_))); (case side2 => exact HC0_1.out); rintro e w9 ⟨rfl, hb⟩; refine ⟨_, rfl, ?_⟩; have n0_ := Aside0.mk (blk_below (g := gb136) (o := .cells #[.int .i64 a0_0, .slice A0_1 l0_1.length c0_1] 29 (0, 0)) (by (with_reducible repeat (first | refine blk_drewN ?_ _ | refine blk_drew ?_ | refine blk_alloc ?_ _)); exact BK136.out) hb); have n1_ := Aside0.mk (below_step (by repeat (first | (with_reducible first | exact HB.out | apply below_alloc | apply pw_below_drewN | apply below_drew1 | refine below_set ?_ GE136.out) | exact HB.out)) hb); clear BK136; clear HB; have BK136 := n0_; have HB := n1_; clear n0_ n1_; (try clear hb); (try clear hb2); (try clear hk); (try clear hi); have hcz10_0 : w9.cell? ⟨gb136, 0, none⟩ = some (.int .i64 a0_0) := (blk_cell BK136.out 0).trans rfl; have hcz10_1 : w9.cell? ⟨gb136, 1, none⟩ = some (.slice A0_1 l0_1.length c0_1) := (blk_cell BK136.out 1).trans rfl; have hfz10_0 := blk_frozen BK136.out 0; have hfz10_1 := blk_frozen BK136.out 1; have p139 : 0 ≤ (t137 : Int) := of_decide_eq_true (by first | (with_reducible assumption) | assumption); have q139 : t137 < (l0_1.length : Int) := of_decide_eq_true (by first | (with_reducible assumption) | assumption); obtain ⟨ad139, e139, hx139_0, hx139_1, hx139_2⟩ := at_T41 HR0_1.out t137 p139 q139; cases e139; replace hx139_0 := (HB.out.cell (World.block_lt_of_cell? w _ hx139_0)).trans hx139_0; replace hx139_1 := (HB.out.cell (World.block_lt_of_cell? w _ hx139_1)).trans hx139_1; replace hx139_2 := (HB.out.cell (World.block_lt_of_cell? w _ hx139_2)).trans hx139_2; replace p139 := eq_true p139; replace q139 := eq_true q139))
        go_ret2
        exact ⟨by first | rfl | (simp [errW_none, errW_some] <;> rfl) | (simp [*, errW_none, errW_some] <;> rfl), by repeat (first | (with_reducible first | exact HB.out | apply below_alloc | apply pw_below_drewN | apply below_drew1 | refine below_set ?_ GE136.out) | exact HB.out)⟩
      · rw [if_neg c6] at H
        exact absurd H (by simp)
    · rw [if_neg c5] at H
      exact absurd H (by simp)
  · replace c4 := Bool.eq_false_iff.mpr c4
    subst c4
    have H1 : (some ((⟨#[]⟩ : ByteArray), 9)) = some (r1, r2) := by rw [if_neg (show ¬ (false = true) by decide)] at H; exact H
    clear H
    have H := H1
    clear H1
    simp only [Option.some.injEq, Prod.mk.injEq] at H
    obtain ⟨rfl, rfl⟩ := H
    go_enter Tryd.func16, Tryd.ntmps16
    go_wp2_with (first | ((with_reducible refine gate_dst (N := 2) rfl ?_); refine box_event ?hg (N := 2) ?hd (cs := #[.int .i64 a0_0, .slice A0_1 l0_1.length c0_1]) (t := 29) ?hr ?_; (case hd => rfl); (case hg => rfl); (case hr => first | (go_simp; done) | (go_simp; rfl)); intro gb136 hg w11 hbox hb; have n0_ := Aside0.mk (below_step (by repeat (first | (with_reducible first | exact HB.out | apply below_alloc | apply pw_below_drewN | apply below_drew1) | exact HB.out)) hb); have n1_ := Aside0.mk (hbox); have n2_ := Aside0.mk ((by rw [hg]; exact (below_size (by repeat (first | (with_reducible first | exact HB.out | apply below_alloc | apply pw_below_drewN | apply below_drew1) | exact HB.out))) : w.heap.size ≤ gb136)); have n3_ := Aside0.mk ((by rw [hg]; exact (below_size (by repeat (first | (with_reducible first | exact HB.out | apply below_alloc | apply pw_below_drewN | apply below_drew1) | exact HB.out))) : w.heap.size ≤ gb136)); clear HB; have HB := n0_; have BK136 := n1_; have GW136 := n2_; have GE136 := n3_; clear n0_ n1_ n2_ n3_; clear hb hbox hg; have hcz12_0 : w11.cell? ⟨gb136, 0, none⟩ = some (.int .i64 a0_0) := (blk_cell BK136.out 0).trans rfl; have hcz12_1 : w11.cell? ⟨gb136, 1, none⟩ = some (.slice A0_1 l0_1.length c0_1) := (blk_cell BK136.out 1).trans rfl; have hfz12_0 := blk_frozen BK136.out 0; have hfz12_1 := blk_frozen BK136.out 1) | ((with_reducible refine gate_callee (f := 24) rfl ?_); refine goesL_ (some 11) rfl rfl Tryd.func24 (by kernel_rfl) rfl #[.agg #[.int .i64 a0_0, .slice A0_1 l0_1.length c0_1], .string a1] rfl (by (try simp only [List.map_toArray, List.map_cons, List.map_nil]); first | done | rfl | (simp only [List.length_drop, List.length_take]; rfl)) ?_; (with_reducible refine (disk_at.calls a0_0 _ _ l0_1 a1 t137 false _ ?side1 ?side2 A3.out).mono ?_); (case side1 => repeat (first | exact (Kd.C_below HR0_1.out HB.out) | (with_reducible refine Kd.C_alloc ?_ _) | (with_reducible refine Kd.C_drewN ?_ _) | (with_reducible refine Kd.C_drew ?_))); (case side2 => exact HC0_1.out); rintro e w13 ⟨rfl, hb⟩; refine ⟨_, rfl, ?_⟩; have n0_ := Aside0.mk (blk_below (g := gb136) (o := .cells #[.int .i64 a0_0, .slice A0_1 l0_1.length c0_1] 29 (0, 0)) (by (with_reducible repeat (first | refine blk_drewN ?_ _ | refine blk_drew ?_ | refine blk_alloc ?_ _)); exact BK136.out) hb); have n1_ := Aside0.mk (below_step (by repeat (first | (with_reducible first | exact HB.out | apply below_alloc | apply pw_below_drewN | apply below_drew1 | refine below_set ?_ GE136.out) | exact HB.out)) hb); clear BK136; clear HB; have BK136 := n0_; have HB := n1_; clear n0_ n1_; (try clear hb); (try clear hb2); (try clear hk); (try clear hi)))
    go_ret2
    exact ⟨by first | rfl | (simp [errW_none, errW_some] <;> rfl) | (simp [*, errW_none, errW_some] <;> rfl), by repeat (first | (with_reducible first | exact HB.out | apply below_alloc | apply pw_below_drewN | apply below_drew1 | refine below_set ?_ GE136.out) | exact HB.out)⟩

end Go.Proofs.YtbpobnlkfpjijaaDoorR.Pr
end
-- Dd
section
namespace Go.Proofs.YtbpobnlkfpjijaaDoorR.Pr
open Go.RowKit Go.Proofs.YtbpobnlkfpjijaaDoorRW.PrintWords Go.Proofs.YtbpobnlkfpjijaaDoorRW.PrintLast Go.Proofs.YtbpobnlkfpjijaaDoorRW.PrintMore
set_option linter.unusedVariables false
set_option linter.unusedSimpArgs false
theorem leo_up {α : Type} {f : Nat → Option α} (h : ∀ k, LeO (f k) (f (k + 1))) {a : Nat} {r : α} (ha : f a = some r) : ∀ b, a ≤ b → f b = some r := by
  intro b hb
  obtain ⟨d, rfl⟩ : ∃ d, b = a + d := ⟨b - a, by omega⟩
  clear hb
  induction d with
  | zero => exact ha
  | succ d ih => exact h _ _ ih
theorem rd_nil_lt (l : List S41) (i : Nat) (h : i < l.length) : rd_T41 l (i : Int) = l[i] := by
  simp [rd_T41, List.getD_eq_getElem?_getD, List.getElem?_eq_getElem h]

theorem eq_toList {a b : ByteArray} : a.toList = b.toList ↔ a = b := by
  rw [ByteArray.toList_eq, ByteArray.toList_eq]
  constructor
  · intro h
    cases a; cases b
    simp at h
    rw [h]
  · intro h; rw [h]
theorem bl_irrefl : ∀ x : List UInt8, Op.bytesLess x x = false
  | [] => rfl
  | a :: x => by simp [Op.bytesLess, bl_irrefl x]
theorem bl_cons (a b : UInt8) (x y : List UInt8) : Op.bytesLess (a :: x) (b :: y) = true ↔ a.toNat < b.toNat ∨ (a.toNat = b.toNat ∧ Op.bytesLess x y = true) := by
  simp [Op.bytesLess, UInt8.lt_iff_toNat_lt, ← UInt8.toNat_inj]
theorem bl_trans : ∀ {x y z : List UInt8}, Op.bytesLess x y = true → Op.bytesLess y z = true → Op.bytesLess x z = true
  | _, [], _, h, _ => by simp [Op.bytesLess] at h
  | [], _ :: _, [], _, h => by simp [Op.bytesLess] at h
  | [], _ :: _, _ :: _, _, _ => rfl
  | _ :: _, _ :: _, [], _, h => by simp [Op.bytesLess] at h
  | a :: x, b :: y, c :: z, h1, h2 => by
    rw [bl_cons] at h1 h2 ⊢
    rcases h1 with h1 | ⟨h1, h1'⟩ <;> rcases h2 with h2 | ⟨h2, h2'⟩
    · exact .inl (by omega)
    · exact .inl (by omega)
    · exact .inl (by omega)
    · exact .inr ⟨by omega, bl_trans h1' h2'⟩
theorem bl_tri : ∀ {x y : List UInt8}, Op.bytesLess x y = false → Op.bytesLess y x = false → x = y
  | [], [], _, _ => rfl
  | [], _ :: _, h, _ => by simp [Op.bytesLess] at h
  | _ :: _, [], _, h => by simp [Op.bytesLess] at h
  | a :: x, b :: y, h1, h2 => by
    have h1' : ¬ Op.bytesLess (a :: x) (b :: y) = true := by rw [h1]; decide
    have h2' : ¬ Op.bytesLess (b :: y) (a :: x) = true := by rw [h2]; decide
    rw [bl_cons] at h1' h2'
    have e : a.toNat = b.toNat := by omega
    have e1 : Op.bytesLess x y = false := by
      cases hh : Op.bytesLess x y
      · rfl
      · exact absurd (.inr ⟨e, hh⟩) h1'
    have e2 : Op.bytesLess y x = false := by
      cases hh : Op.bytesLess y x
      · rfl
      · exact absurd (.inr ⟨e.symm, hh⟩) h2'
    rw [UInt8.toNat_inj.1 e, bl_tri e1 e2]
/-- A name ahead of another one. -/
def NLt (a b : ByteArray) : Prop := Op.bytesLess a.toList b.toList = true
theorem nlt_irrefl (a : ByteArray) : ¬ NLt a a := by unfold NLt; rw [bl_irrefl]; decide
theorem nlt_trans {a b c : ByteArray} (h1 : NLt a b) (h2 : NLt b c) : NLt a c := bl_trans h1 h2
theorem nlt_tri {a b : ByteArray} (h1 : ¬ NLt a b) (h2 : ¬ NLt b a) : a = b := by
  unfold NLt at h1 h2
  exact eq_toList.1 (bl_tri (by simpa using h1) (by simpa using h2))
theorem nameGe_iff (s x : ByteArray) : nameGe s x = true ↔ ¬ NLt x s := by
  unfold nameGe NLt
  simp
def Sorted (l : List S41) : Prop := l.Pairwise fun x y => NLt x.f0 y.f0
theorem firstGe_spec (s : ByteArray) : ∀ (l : List S41) (i : Nat), (firstGe s l i = -1 ∧ ∀ x ∈ l, NLt x.f0 s) ∨ ∃ A x B, l = A ++ x :: B ∧ firstGe s l i = (i : Int) + A.length ∧ (∀ y ∈ A, NLt y.f0 s) ∧ ¬ NLt x.f0 s
  | [], i => .inl ⟨rfl, by simp⟩
  | x :: l, i => by
    unfold firstGe
    by_cases h : nameGe s x.f0 = true
    · rw [if_pos h]
      exact .inr ⟨[], x, l, rfl, by simp, by simp, (nameGe_iff _ _).1 h⟩
    · rw [if_neg h]
      have hx : NLt x.f0 s := by
        rw [nameGe_iff] at h
        exact Classical.not_not.1 h
      rcases firstGe_spec s l (i + 1) with ⟨h1, h2⟩ | ⟨A, y, B, rfl, h1, h2, h3⟩
      · refine .inl ⟨h1, ?_⟩
        intro y hy
        rcases List.mem_cons.1 hy with rfl | hy
        · exact hx
        · exact h2 y hy
      · refine .inr ⟨x :: A, y, B, rfl, by rw [h1]; simp only [List.length_cons]; omega, ?_, h3⟩
        intro y hy
        rcases List.mem_cons.1 hy with rfl | hy
        · exact hx
        · exact h2 y hy
theorem rd_mid (A B : List S41) (x : S41) : rd_T41 (A ++ x :: B) (A.length : Int) = x := by
  simp [rd_T41]
/-- A name's place among sorted files: there, or between. -/
theorem at_spec (a : Int) (l : List S41) (s : ByteArray) (hs : Sorted l) :
    (∃ A x B, l = A ++ x :: B ∧ disk_at.f a l s = some ((A.length : Int), true) ∧ x.f0 = s ∧ (∀ y ∈ A, NLt y.f0 s) ∧ ∀ y ∈ B, NLt s y.f0) ∨
    (∃ A B, l = A ++ B ∧ disk_at.f a l s = some ((A.length : Int), false) ∧ (∀ y ∈ A, NLt y.f0 s) ∧ ∀ y ∈ B, NLt s y.f0) := by
  rcases firstGe_spec s l 0 with ⟨h1, h2⟩ | ⟨A, x, B, rfl, h1, h2, h3⟩
  · refine .inr ⟨l, [], by simp, ?_, h2, by simp⟩
    unfold disk_at.f
    rw [h1, if_pos (by decide)]
  · have h0 : firstGe s (A ++ x :: B) 0 = (A.length : Int) := by rw [h1]; simp
    have hsB : ∀ y ∈ B, NLt x.f0 y.f0 := by
      have := (List.pairwise_append.1 hs).2.1
      exact (List.pairwise_cons.1 this).1
    have hat : disk_at.f a (A ++ x :: B) s = some ((A.length : Int), x.f0.toList == s.toList) := by
      unfold disk_at.f
      rw [h0, if_neg (by omega), rd_mid]
    by_cases he : x.f0 = s
    · subst he
      exact .inl ⟨A, x, B, rfl, by rw [hat]; simp, rfl, h2, hsB⟩
    · have hlt : NLt s x.f0 := by
        rcases Classical.em (NLt s x.f0) with h | h
        · exact h
        · exact absurd (nlt_tri h3 h) he
      refine .inr ⟨A, x :: B, rfl, ?_, h2, ?_⟩
      · rw [hat]
        have : (x.f0.toList == s.toList) = false := by
          rw [beq_eq_false_iff_ne]
          exact fun h => he (eq_toList.1 h)
        rw [this]
      · intro y hy
        rcases List.mem_cons.1 hy with rfl | hy
        · exact hlt
        · exact nlt_trans hlt (hsB y hy)
theorem sorted_mid {A B : List S41} {f : S41} (hA : Sorted A) (hB : Sorted B) (h1 : ∀ y ∈ A, NLt y.f0 f.f0) (h2 : ∀ y ∈ B, NLt f.f0 y.f0) : Sorted (A ++ f :: B) := by
  refine List.pairwise_append.2 ⟨hA, List.pairwise_cons.2 ⟨h2, hB⟩, ?_⟩
  intro x hx y hy
  rcases List.mem_cons.1 hy with rfl | hy
  · exact h1 x hx
  · exact nlt_trans (h1 x hx) (h2 y hy)
theorem sorted_two {A B : List S41} {s : ByteArray} (hA : Sorted A) (hB : Sorted B) (h1 : ∀ y ∈ A, NLt y.f0 s) (h2 : ∀ y ∈ B, NLt s y.f0) : Sorted (A ++ B) :=
  List.pairwise_append.2 ⟨hA, hB, fun x hx y hy => nlt_trans (h1 x hx) (h2 y hy)⟩
theorem Sorted.left {A B : List S41} (h : Sorted (A ++ B)) : Sorted A := (List.pairwise_append.1 h).1
theorem Sorted.right {A B : List S41} (h : Sorted (A ++ B)) : Sorted B := (List.pairwise_append.1 h).2.1
theorem Sorted.tail {B : List S41} {x : S41} (h : Sorted (x :: B)) : Sorted B := (List.pairwise_cons.1 h).2
theorem nlt_ne {a b : ByteArray} (h : NLt a b) : a ≠ b := fun e => nlt_irrefl b (e ▸ h)
theorem sorted_one {l : List S41} (h : Sorted l) {x y : S41} (hx : x ∈ l) (hy : y ∈ l) (e : x.f0 = y.f0) : x = y := by
  induction l with
  | nil => cases hx
  | cons z l ih =>
    obtain ⟨h1, h2⟩ := List.pairwise_cons.1 h
    rcases List.mem_cons.1 hx with hx' | hx' <;> rcases List.mem_cons.1 hy with hy' | hy'
    · rw [hx', hy']
    · subst hx'
      exact absurd e (nlt_ne (h1 y hy'))
    · subst hy'
      exact absurd e.symm (nlt_ne (h1 x hx'))
    · exact ih h2 hx' hy'
theorem read_mem (a : Int) {l : List S41} (hs : Sorted l) {x : S41} (hx : x ∈ l) : disk_Read.f a l x.f0 = some (x.f1, 0) := by
  rcases at_spec a l x.f0 hs with ⟨A, y, B, rfl, hat, he, _, _⟩ | ⟨A, B, rfl, _, h1, h2⟩
  · have hxy : y = x := sorted_one hs (by simp) hx he
    subst hxy
    unfold disk_Read.f
    rw [hat]
    simp [rd_mid]
    omega
  · rcases List.mem_append.1 hx with h | h
    · exact absurd (h1 x h) (nlt_irrefl _)
    · exact absurd (h2 x h) (nlt_irrefl _)
theorem read_none (a : Int) {l : List S41} (hs : Sorted l) {s : ByteArray} (h : ∀ x ∈ l, x.f0 ≠ s) : disk_Read.f a l s = some (⟨#[]⟩, 9) := by
  rcases at_spec a l s hs with ⟨A, y, B, rfl, hat, he, _, _⟩ | ⟨A, B, rfl, hat, h1, h2⟩
  · exact absurd he (h y (by simp))
  · unfold disk_Read.f
    rw [hat]
    simp
def NameOk (s : ByteArray) : Prop := 1 ≤ s.size ∧ s.size ≤ 16
def RightP (a : Int) (l : List S41) : Prop := 0 ≤ a ∧ l.length ≤ 64 ∧ (∀ x ∈ l, NameOk x.f0) ∧ Sorted l
theorem sorted_of_adj : ∀ (l : List S41), (∀ (j : Nat) (h : j + 1 < l.length), NLt l[j].f0 l[j + 1].f0) → Sorted l
  | [], _ => List.Pairwise.nil
  | [x], _ => List.pairwise_singleton _ _
  | x :: y :: l, h => by
    have ih := sorted_of_adj (y :: l) (fun j hj => h (j + 1) (by simp only [List.length_cons] at hj ⊢; omega))
    have hxy : NLt x.f0 y.f0 := h 0 (by simp)
    refine List.pairwise_cons.2 ⟨fun z hz => ?_, ih⟩
    rcases List.mem_cons.1 hz with rfl | hz
    · exact hxy
    · exact nlt_trans hxy ((List.pairwise_cons.1 ih).1 z hz)
theorem rname_is (s : ByteArray) : ∃ b, tallystickref15_name.f s = some b ∧ (b = true ↔ NameOk s) := by
  unfold tallystickref15_name.f NameOk
  split
  · refine ⟨_, rfl, ?_⟩
    rw [decide_eq_true_eq]
    omega
  · exact ⟨false, rfl, by simp; omega⟩
theorem right_loop2 (a : Int) (l : List S41) (hl : l.length ≤ 64) : ∀ (d i : Nat), l.length - i = d → i ≤ l.length → ∃ b, tallystickref15_Right.l0 (d + 1) (i : Int) a l = some b ∧ (b = true ↔ ∀ (j : Nat) (h : j < l.length), i ≤ j → NameOk l[j].f0 ∧ ∀ (h0 : 0 < j), NLt l[j - 1].f0 l[j].f0)
  | d, i, hd, hi => by
    unfold tallystickref15_Right.l0
    by_cases h : (i : Int) < (l.length : Int)
    · have hlt : i < l.length := by omega
      obtain ⟨b, hb, hbn⟩ := rname_is l[i].f0
      have hw : wrap64 ((i : Int) + 1) = ((i + 1 : Nat) : Int) := by unfold wrap64; omega
      obtain ⟨d', rfl⟩ : ∃ d', d = d' + 1 := ⟨d - 1, by omega⟩
      obtain ⟨b2, ih, ihb⟩ := right_loop2 a l hl d' (i + 1) (by omega) (by omega)
      rw [if_pos h, if_pos (by omega), rd_nil_lt l i hlt, hb, Option.bind_some, hw]
      cases b with
      | false =>
        refine ⟨false, by rw [if_neg (by decide)], by simp, fun hall => ?_⟩
        have := (hall i hlt (Nat.le_refl _)).1
        exact absurd (hbn.2 this) (by decide)
      | true =>
        have hname := hbn.1 rfl
        rw [if_pos rfl]
        by_cases h0 : (i : Int) > 0
        · have hw2 : wrap64 ((i : Int) - 1) = ((i - 1 : Nat) : Int) := by unfold wrap64; omega
          rw [if_pos h0, hw2, if_pos (by omega), if_pos (by omega), rd_nil_lt l (i - 1) (by omega)]
          by_cases hord : Op.bytesLess l[i - 1].f0.toList l[i].f0.toList = true
          · refine ⟨b2, by rw [if_pos hord]; exact ih, ?_⟩
            rw [ihb]
            constructor
            · intro hall j hj hij
              rcases Nat.lt_or_ge i j with h3 | h3
              · exact hall j hj (by omega)
              · obtain rfl : j = i := by omega
                exact ⟨hname, fun _ => hord⟩
            · exact fun hall j hj hij => hall j hj (by omega)
          · refine ⟨false, by rw [if_neg hord], by simp, fun hall => ?_⟩
            exact absurd ((hall i hlt (Nat.le_refl _)).2 (by omega)) hord
        · refine ⟨b2, by rw [if_neg h0]; exact ih, ?_⟩
          rw [ihb]
          constructor
          · intro hall j hj hij
            rcases Nat.lt_or_ge i j with h3 | h3
            · exact hall j hj (by omega)
            · obtain rfl : j = i := by omega
              exact ⟨hname, fun h4 => by omega⟩
          · exact fun hall j hj hij => hall j hj (by omega)
    · refine ⟨true, by rw [if_neg h], by simp; intro j hj hij; omega⟩
theorem right_is (a : Int) (l : List S41) : ∃ b, (∀ k, 70 ≤ k → tallystickref15_Right.f k a l = some b) ∧ (b = true ↔ RightP a l) := by
  suffices h : ∃ b, tallystickref15_Right.f 70 a l = some b ∧ (b = true ↔ RightP a l) by
    obtain ⟨b, h1, h2⟩ := h
    exact ⟨b, fun k hk => leo_up (f := fun k => tallystickref15_Right.f k a l) (tallystickref15_Right.mono a l) h1 k hk, h2⟩
  unfold tallystickref15_Right.f
  by_cases ha : a < 0
  · rw [if_pos ha]
    refine ⟨false, by simp [tallystickref15_Right.j0], by simp, fun h => ?_⟩
    have := h.1
    omega
  · rw [if_neg ha]
    by_cases h : (l.length : Int) > 64
    · refine ⟨false, by simp [tallystickref15_Right.j0, h], by simp, fun hr => ?_⟩
      have := hr.2.1
      omega
    · obtain ⟨b, hb, hbi⟩ := right_loop2 a l (by omega) l.length 0 (by omega) (by omega)
      have hb2 := leo_up (f := fun k => tallystickref15_Right.l0 k 0 a l) (fun k => (tallystickref15_Right.mono_l k).2 0 a l) hb 69 (by omega)
      refine ⟨b, ?_, ?_⟩
      · rw [decide_eq_false h]
        show tallystickref15_Right.j0 (69 + 1) false a l = some b
        unfold tallystickref15_Right.j0
        dsimp only
        rw [if_neg (by decide)]
        exact hb2
      · rw [hbi]
        constructor
        · intro hall
          refine ⟨by omega, by omega, fun x hx => ?_, sorted_of_adj l fun j hj => ?_⟩
          · obtain ⟨j, hj, rfl⟩ := List.getElem_of_mem hx
            exact (hall j hj (Nat.zero_le _)).1
          · have := (hall (j + 1) hj (Nat.zero_le _)).2 (by omega)
            simpa using this
        · intro hr j hj _
          refine ⟨hr.2.2.1 _ (List.getElem_mem _), fun h0 => ?_⟩
          exact List.pairwise_iff_getElem.1 hr.2.2.2 (j - 1) j (by omega) hj (by omega)
end Go.Proofs.YtbpobnlkfpjijaaDoorR.Pr
end
-- Pr1
section
namespace Go.Proofs.YtbpobnlkfpjijaaDoorR.Pr
open Go.RowKit Go.Proofs.YtbpobnlkfpjijaaDoorRW.PrintWords Go.Proofs.YtbpobnlkfpjijaaDoorRW.PrintLast Go.Proofs.YtbpobnlkfpjijaaDoorRW.PrintMore
attribute [local go_sem] max2_int min2_int max_two min_two max_three min_three max_four min_four   -- for this text's walks alone
set_option linter.unusedVariables false
set_option linter.unusedSimpArgs false

attribute [local go_sem] Go.Proofs.Aid.cell_set_row
theorem eqA23 (d : Nat) (w : World) (x0 y0 : Int) (x1 y1 : Int) :
    (Op.equalIn (d + 2) 23 (.agg #[.int .i64 x0, .int .i64 x1]) (.agg #[.int .i64 y0, .int .i64 y1])).run Tryd.prog w = .ok (x0 == y0 && (x1 == y1)) w := by
  refine eqA_of Tryd.underlying23 (by kernel_rfl) ?_
  refine eqf_cons (by rfl) (by go_simp; rfl) (by go_simp; rfl) (by go_simp) ?_
  exact eqf_last (by rfl) (by go_simp; rfl) (by go_simp; rfl) (by go_simp)
end Go.Proofs.YtbpobnlkfpjijaaDoorR.Pr
end
-- Pr30
section
namespace Go.Proofs.YtbpobnlkfpjijaaDoorR.Pr
open Go.RowKit Go.Proofs.YtbpobnlkfpjijaaDoorRW.PrintWords Go.Proofs.YtbpobnlkfpjijaaDoorRW.PrintLast Go.Proofs.YtbpobnlkfpjijaaDoorRW.PrintMore
attribute [local go_sem] max2_int min2_int max_two min_two max_three min_three max_four min_four   -- for this text's walks alone
set_option linter.unusedVariables false
set_option linter.unusedSimpArgs false

attribute [local go_sem] Go.Proofs.Aid.cell_set_row
def tallystickref04_Same.l0 : Nat → List Int → List Int → Int → Option (Bool)
  | 0, _, _, _ => none
  | k + 1, x0, x1, x5 => if x5 < (x0.length : Int) then (if 0 ≤ x5 then (if x5 < (x1.length : Int) then (if (rd x0 x5) = (rd x1 x5) then (tallystickref04_Same.l0 k x0 x1 (wrap64 (x5 + 1))) else (some false)) else (none)) else (none)) else (some true)
def tallystickref04_Same.f (k : Nat) (l0 : List Int) (l1 : List Int) : Option (Bool) := if (l0.length : Int) = (l1.length : Int) then (tallystickref04_Same.l0 k l0 l1 0) else (some false)
theorem tallystickref04_Same.mono_l : ∀ k, (∀ y0 y1 y2, LeO (tallystickref04_Same.l0 k y0 y1 y2) (tallystickref04_Same.l0 (k + 1) y0 y1 y2))
  | 0 => fun _ _ _ r h => by simp [tallystickref04_Same.l0] at h
  | k + 1 => by
    have ih0 := tallystickref04_Same.mono_l k
    · intro y0 y1 y2
      unfold tallystickref04_Same.l0
      repeat' first
      | (with_reducible exact ih0 _ _ _)
      | (with_reducible exact LeO.refl _)
      | (with_reducible exact LeO.none _)
      | (with_reducible refine LeO.ite ?_ ?_)
      | (with_reducible refine LeO.bind ?_ (fun _ => ?_))
      | exact ih0 _ _ _
      | exact LeO.none _
      | refine LeO.ite ?_ ?_
      | refine LeO.bind ?_ (fun _ => ?_)
theorem tallystickref04_Same.mono : ∀ a0 a1 k, LeO (tallystickref04_Same.f k a0 a1) (tallystickref04_Same.f (k + 1) a0 a1) := by
  intro a0 a1 k
  have ih0 := tallystickref04_Same.mono_l k
  unfold tallystickref04_Same.f
  repeat' first
      | (with_reducible exact ih0 _ _ _)
      | (with_reducible exact LeO.refl _)
      | (with_reducible exact LeO.none _)
      | (with_reducible refine LeO.ite ?_ ?_)
      | (with_reducible refine LeO.bind ?_ (fun _ => ?_))
      | exact ih0 _ _ _
      | exact LeO.none _
      | refine LeO.ite ?_ ?_
      | refine LeO.bind ?_ (fun _ => ?_)
set_option maxHeartbeats 8000000 in
set_option maxRecDepth 100000 in
theorem tallystickref04_Same.calls (k : Nat) (A0 : Option Addr) (c0 : Nat) (l0 : List Int) (A1 : Option Addr) (c1 : Nat) (l1 : List Int) (r : Bool) (w : World) (hr0 : Kd.C (Kd.int .u64) w A0 l0.length l0) (hc0 : l0.length ≤ c0) (hr1 : Kd.C (Kd.int .u64) w A1 l1.length l1) (hc1 : l1.length ≤ c1) (h : tallystickref04_Same.f k l0 l1 = some r) :
    Calls Tryd.prog 22 #[.slice A0 l0.length c0, .slice A1 l1.length c1] w fun e w' => e = .returned (.bool r) ∧ Drawn0 w w' := by
  have HR0 := Aside0.mk hr0
  have HC0 := Aside0.mk hc0
  clear hr0 hc0
  have HR1 := Aside0.mk hr1
  have HC1 := Aside0.mk hc1
  clear hr1 hc1
  have H : (if (l0.length : Int) = (l1.length : Int) then (tallystickref04_Same.l0 k l0 l1 0) else (some false)) = some r := h
  clear h
  by_cases c3 : (l0.length : Int) = (l1.length : Int)
  · rw [if_pos c3] at H
    have c3b0 : ((l0.length : Int) == (l1.length : Int)) = true := beq_iff_eq.mpr c3
    have c3b1 : ((l0.length : Int) != (l1.length : Int)) = false := bne_eq_false_iff_eq.mpr c3
    have c3b2 : (l0.length == l1.length) = true := by first | simpa using c3 | (simp at c3 ⊢; omega)
    clear c3
    have H' := Aside0.mk H
    clear H
    go_enter Tryd.func22, Tryd.ntmps22
    go_wp2
    repeat (go_quiet (fail); try go_wp2)
    go_loopg [5] k (fun kq v5 w' => ∃ (x5_1 : Int), v5 = .int .i64 x5_1 ∧ Aside0 (tallystickref04_Same.l0 kq l0 l1 x5_1 = some r) ∧ Aside0 (kq ≤ k) ∧ Drawn0 w w')
    case atStart => exact ⟨(0), (by first | rfl | (simp; done) | (simp [*]; done)), H', ⟨Nat.le_refl _⟩, by repeat (first | exact Drawn0.refl _ | apply Drawn0.step)⟩
    case round =>
      clear H'
      try clear c1
      try clear c2
      try clear p2
      try clear c3
      try clear c3b0
      try clear c3b1
      try clear c3b2
      obtain ⟨x5_1, rfl, HA, HK1, ⟨m1, rfl⟩⟩ := hrel
      cases gk with
      | zero => exact absurd HA.out (by simp [tallystickref04_Same.l0])
      | succ k1 =>
        have H := HA.out
        clear HA
        simp only [tallystickref04_Same.l0] at H
        by_cases c4 : x5_1 < (l0.length : Int)
        · rw [if_pos c4] at H
          have c4b0 : decide (x5_1 < (l0.length : Int)) = true := decide_eq_true c4
          clear c4
          by_cases c5 : 0 ≤ x5_1
          · rw [if_pos c5] at H
            have c5b0 : decide (0 ≤ x5_1) = true := decide_eq_true c5
            clear c5
            by_cases c6 : x5_1 < (l1.length : Int)
            · rw [if_pos c6] at H
              have c6b0 : decide (x5_1 < (l1.length : Int)) = true := decide_eq_true c6
              clear c6
              by_cases c7 : (rd l0 x5_1) = (rd l1 x5_1)
              · rw [if_pos c7] at H
                have c7b0 : ((rd l0 x5_1) == (rd l1 x5_1)) = true := beq_iff_eq.mpr c7
                have c7b1 : ((rd l0 x5_1) != (rd l1 x5_1)) = false := bne_eq_false_iff_eq.mpr c7
                clear c7
                have H' := Aside0.mk H
                clear H
                have p126 : 0 ≤ (x5_1 : Int) := of_decide_eq_true (by first | (with_reducible assumption) | assumption)
                have q126 : x5_1 < (l0.length : Int) := of_decide_eq_true (by first | (with_reducible assumption) | assumption)
                obtain ⟨ad126, e126, hx126_0⟩ := Kd.at_int HR0.out x5_1 p126 q126
                cases e126
                replace p126 := eq_true p126
                replace q126 := eq_true q126
                have p127 : 0 ≤ (x5_1 : Int) := of_decide_eq_true (by first | (with_reducible assumption) | assumption)
                have q127 : x5_1 < (l1.length : Int) := of_decide_eq_true (by first | (with_reducible assumption) | assumption)
                obtain ⟨ad127, e127, hx127_0⟩ := Kd.at_int HR1.out x5_1 p127 q127
                cases e127
                replace p127 := eq_true p127
                replace q127 := eq_true q127
                go_wp2
                repeat (go_quiet (fail); try go_wp2)
                go_roundg k1
                case measure => have := HK1.out; omega
                case rel => exact ⟨(wrap64 (x5_1 + 1)), (by first | rfl | (simp; done) | (simp [*]; done)), H', ⟨by have := HK1.out; omega⟩, by repeat (first | exact Drawn0.refl _ | apply Drawn0.step)⟩
              · rw [if_neg c7] at H
                have c7b0 : ((rd l0 x5_1) == (rd l1 x5_1)) = false := beq_eq_false_iff_ne.mpr c7
                have c7b1 : ((rd l0 x5_1) != (rd l1 x5_1)) = true := bne_iff_ne.mpr c7
                obtain rfl := Option.some.inj H
                have p126 : 0 ≤ (x5_1 : Int) := of_decide_eq_true (by first | (with_reducible assumption) | assumption)
                have q126 : x5_1 < (l0.length : Int) := of_decide_eq_true (by first | (with_reducible assumption) | assumption)
                obtain ⟨ad126, e126, hx126_0⟩ := Kd.at_int HR0.out x5_1 p126 q126
                cases e126
                replace p126 := eq_true p126
                replace q126 := eq_true q126
                have p127 : 0 ≤ (x5_1 : Int) := of_decide_eq_true (by first | (with_reducible assumption) | assumption)
                have q127 : x5_1 < (l1.length : Int) := of_decide_eq_true (by first | (with_reducible assumption) | assumption)
                obtain ⟨ad127, e127, hx127_0⟩ := Kd.at_int HR1.out x5_1 p127 q127
                cases e127
                replace p127 := eq_true p127
                replace q127 := eq_true q127
                go_wp2
                repeat (go_quiet (fail); try go_wp2)
                go_ret
                exact ⟨by first | rfl | (simp; done) | (simp [*]; done), by repeat (first | exact Drawn0.refl _ | apply Drawn0.step)⟩
            · rw [if_neg c6] at H
              exact absurd H (by simp)
          · rw [if_neg c5] at H
            exact absurd H (by simp)
        · rw [if_neg c4] at H
          have c4b0 : decide (x5_1 < (l0.length : Int)) = false := decide_eq_false c4
          clear c4
          obtain rfl := Option.some.inj H
          go_wp2
          repeat (go_quiet (fail); try go_wp2)
          go_ret
          exact ⟨by first | rfl | (simp; done) | (simp [*]; done), by repeat (first | exact Drawn0.refl _ | apply Drawn0.step)⟩
  · rw [if_neg c3] at H
    have c3b0 : ((l0.length : Int) == (l1.length : Int)) = false := beq_eq_false_iff_ne.mpr c3
    have c3b1 : ((l0.length : Int) != (l1.length : Int)) = true := bne_iff_ne.mpr c3
    have c3b2 : (l0.length == l1.length) = false := by first | simpa using c3 | (simp at c3 ⊢; omega)
    obtain rfl := Option.some.inj H
    go_enter Tryd.func22, Tryd.ntmps22
    go_wp2
    repeat (go_quiet (fail); try go_wp2)
    go_ret
    exact ⟨by first | rfl | (simp; done) | (simp [*]; done), by repeat (first | exact Drawn0.refl _ | apply Drawn0.step)⟩

end Go.Proofs.YtbpobnlkfpjijaaDoorR.Pr
end
-- Pr31
section
namespace Go.Proofs.YtbpobnlkfpjijaaDoorR.Pr
open Go.RowKit Go.Proofs.YtbpobnlkfpjijaaDoorRW.PrintWords Go.Proofs.YtbpobnlkfpjijaaDoorRW.PrintLast Go.Proofs.YtbpobnlkfpjijaaDoorRW.PrintMore
attribute [local go_sem] max2_int min2_int max_two min_two max_three min_three max_four min_four   -- for this text's walks alone
set_option linter.unusedVariables false
set_option linter.unusedSimpArgs false

attribute [local go_sem] Go.Proofs.Aid.cell_set_row
attribute [local go_sem high] eqA23
def tallystickref14_SamePart.f (k : Nat) (a0_0 : Int) (a0_1 : Int) (l0_2 : List Int) (l0_3 : List Int) (l0_4 : List Int) (a0_5 : Bool) (a1_0 : Int) (a1_1 : Int) (l1_2 : List Int) (l1_3 : List Int) (l1_4 : List Int) (a1_5 : Bool) : Option (Bool) := (tallystickref04_Same.f k l0_2 l1_2).bind fun t130 => (if t130 = true then ((tallystickref04_Same.f k l0_3 l1_3).bind fun t131 => (if t131 = true then ((tallystickref04_Same.f k l0_4 l1_4).bind fun t132 => (if t132 = true then (if (a0_0 == a1_0 && (a0_1 == a1_1)) = true then (some (a0_5 == a1_5)) else (some false)) else (some false))) else (some false))) else (some false))
theorem tallystickref14_SamePart.mono : ∀ a0 a1 a2 a3 a4 a5 a6 a7 a8 a9 a10 a11 k, LeO (tallystickref14_SamePart.f k a0 a1 a2 a3 a4 a5 a6 a7 a8 a9 a10 a11) (tallystickref14_SamePart.f (k + 1) a0 a1 a2 a3 a4 a5 a6 a7 a8 a9 a10 a11) := by
  intro a0 a1 a2 a3 a4 a5 a6 a7 a8 a9 a10 a11 k
  unfold tallystickref14_SamePart.f
  repeat' first
      | (with_reducible exact tallystickref04_Same.mono _ _ _)
      | (with_reducible exact LeO.refl _)
      | (with_reducible exact LeO.none _)
      | (with_reducible refine LeO.ite ?_ ?_)
      | (with_reducible refine LeO.bind ?_ (fun _ => ?_))
      | exact tallystickref04_Same.mono _ _ _
      | exact LeO.none _
      | refine LeO.ite ?_ ?_
      | refine LeO.bind ?_ (fun _ => ?_)
set_option maxHeartbeats 8000000 in
set_option maxRecDepth 100000 in
theorem tallystickref14_SamePart.calls (k : Nat) (a0_0 : Int) (a0_1 : Int) (A0_2 : Option Addr) (c0_2 : Nat) (l0_2 : List Int) (A0_3 : Option Addr) (c0_3 : Nat) (l0_3 : List Int) (A0_4 : Option Addr) (c0_4 : Nat) (l0_4 : List Int) (a0_5 : Bool) (a1_0 : Int) (a1_1 : Int) (A1_2 : Option Addr) (c1_2 : Nat) (l1_2 : List Int) (A1_3 : Option Addr) (c1_3 : Nat) (l1_3 : List Int) (A1_4 : Option Addr) (c1_4 : Nat) (l1_4 : List Int) (a1_5 : Bool) (r : Bool) (w : World) (hr0_2 : Kd.C (Kd.int .u64) w A0_2 l0_2.length l0_2) (hc0_2 : l0_2.length ≤ c0_2) (hr0_3 : Kd.C (Kd.int .u64) w A0_3 l0_3.length l0_3) (hc0_3 : l0_3.length ≤ c0_3) (hr0_4 : Kd.C (Kd.int .u64) w A0_4 l0_4.length l0_4) (hc0_4 : l0_4.length ≤ c0_4) (hr1_2 : Kd.C (Kd.int .u64) w A1_2 l1_2.length l1_2) (hc1_2 : l1_2.length ≤ c1_2) (hr1_3 : Kd.C (Kd.int .u64) w A1_3 l1_3.length l1_3) (hc1_3 : l1_3.length ≤ c1_3) (hr1_4 : Kd.C (Kd.int .u64) w A1_4 l1_4.length l1_4) (hc1_4 : l1_4.length ≤ c1_4) (h : tallystickref14_SamePart.f k a0_0 a0_1 l0_2 l0_3 l0_4 a0_5 a1_0 a1_1 l1_2 l1_3 l1_4 a1_5 = some r) :
    Calls Tryd.prog 14 #[.agg #[.int .i64 a0_0, .int .i64 a0_1, .slice A0_2 l0_2.length c0_2, .slice A0_3 l0_3.length c0_3, .slice A0_4 l0_4.length c0_4, .bool a0_5], .agg #[.int .i64 a1_0, .int .i64 a1_1, .slice A1_2 l1_2.length c1_2, .slice A1_3 l1_3.length c1_3, .slice A1_4 l1_4.length c1_4, .bool a1_5]] w fun e w' => e = .returned (.bool r) ∧ Below w.heap.size w w' := by
  have hu45 := Tryd.underlying45
  have hu23 := Tryd.underlying23
  have HR0_2 := Aside0.mk hr0_2
  have HC0_2 := Aside0.mk hc0_2
  clear hr0_2 hc0_2
  have HR0_3 := Aside0.mk hr0_3
  have HC0_3 := Aside0.mk hc0_3
  clear hr0_3 hc0_3
  have HR0_4 := Aside0.mk hr0_4
  have HC0_4 := Aside0.mk hc0_4
  clear hr0_4 hc0_4
  have HR1_2 := Aside0.mk hr1_2
  have HC1_2 := Aside0.mk hc1_2
  clear hr1_2 hc1_2
  have HR1_3 := Aside0.mk hr1_3
  have HC1_3 := Aside0.mk hc1_3
  clear hr1_3 hc1_3
  have HR1_4 := Aside0.mk hr1_4
  have HC1_4 := Aside0.mk hc1_4
  clear hr1_4 hc1_4
  have HB := Aside0.mk (Below.refl w.heap.size w)
  have H : ((tallystickref04_Same.f k l0_2 l1_2).bind fun t130 => (if t130 = true then ((tallystickref04_Same.f k l0_3 l1_3).bind fun t131 => (if t131 = true then ((tallystickref04_Same.f k l0_4 l1_4).bind fun t132 => (if t132 = true then (if (a0_0 == a1_0 && (a0_1 == a1_1)) = true then (some (a0_5 == a1_5)) else (some false)) else (some false))) else (some false))) else (some false))) = some r := h
  clear h
  replace H := Option.bind_eq_some_iff.mp H
  obtain ⟨t130, A30, H⟩ := H
  replace H : (if t130 = true then ((tallystickref04_Same.f k l0_3 l1_3).bind fun t131 => (if t131 = true then ((tallystickref04_Same.f k l0_4 l1_4).bind fun t132 => (if t132 = true then (if (a0_0 == a1_0 && (a0_1 == a1_1)) = true then (some (a0_5 == a1_5)) else (some false)) else (some false))) else (some false))) else (some false)) = some r := H
  have A3 := Aside0.mk A30
  clear A30
  by_cases c4 : t130 = true
  · subst c4
    have H1 : ((tallystickref04_Same.f k l0_3 l1_3).bind fun t131 => (if t131 = true then ((tallystickref04_Same.f k l0_4 l1_4).bind fun t132 => (if t132 = true then (if (a0_0 == a1_0 && (a0_1 == a1_1)) = true then (some (a0_5 == a1_5)) else (some false)) else (some false))) else (some false))) = some r := by rw [if_pos rfl] at H; exact H
    clear H
    have H := H1
    clear H1
    replace H := Option.bind_eq_some_iff.mp H
    obtain ⟨t131, A50, H⟩ := H
    replace H : (if t131 = true then ((tallystickref04_Same.f k l0_4 l1_4).bind fun t132 => (if t132 = true then (if (a0_0 == a1_0 && (a0_1 == a1_1)) = true then (some (a0_5 == a1_5)) else (some false)) else (some false))) else (some false)) = some r := H
    have A5 := Aside0.mk A50
    clear A50
    by_cases c6 : t131 = true
    · subst c6
      have H1 : ((tallystickref04_Same.f k l0_4 l1_4).bind fun t132 => (if t132 = true then (if (a0_0 == a1_0 && (a0_1 == a1_1)) = true then (some (a0_5 == a1_5)) else (some false)) else (some false))) = some r := by rw [if_pos rfl] at H; exact H
      clear H
      have H := H1
      clear H1
      replace H := Option.bind_eq_some_iff.mp H
      obtain ⟨t132, A70, H⟩ := H
      replace H : (if t132 = true then (if (a0_0 == a1_0 && (a0_1 == a1_1)) = true then (some (a0_5 == a1_5)) else (some false)) else (some false)) = some r := H
      have A7 := Aside0.mk A70
      clear A70
      by_cases c8 : t132 = true
      · subst c8
        have H1 : (if (a0_0 == a1_0 && (a0_1 == a1_1)) = true then (some (a0_5 == a1_5)) else (some false)) = some r := by rw [if_pos rfl] at H; exact H
        clear H
        have H := H1
        clear H1
        by_cases c9 : (a0_0 == a1_0 && (a0_1 == a1_1)) = true
        · rw [if_pos c9] at H
          have c9b0 : (a0_0 == a1_0 && (a0_1 == a1_1)) = true := c9
          (try (have c9b1 : decide (a0_0 = a1_0 && (a0_1 == a1_1)) = true := by simpa using c9))
          (try (have c9b2 : (a0_0 == a1_0 && (a0_1 == a1_1)) = true := by simpa using c9))
          clear c9
          obtain rfl := Option.some.inj H
          go_enter Tryd.func14, Tryd.ntmps14
          go_wp2_with (first | ((with_reducible refine gate_dst (N := 2) rfl ?_); refine box_event ?hg (N := 2) ?hd (cs := #[.int .i64 a0_0, .int .i64 a0_1, .slice A0_2 l0_2.length c0_2, .slice A0_3 l0_3.length c0_3, .slice A0_4 l0_4.length c0_4, .bool a0_5]) (t := 45) ?hr ?_; (case hd => rfl); (case hg => rfl); (case hr => first | (go_simp; done) | (go_simp; rfl)); intro gb128 hg w10 hbox hb; have n0_ := Aside0.mk (below_step (by repeat (first | (with_reducible first | exact HB.out | apply below_alloc | apply pw_below_drewN | apply below_drew1) | exact HB.out)) hb); have n1_ := Aside0.mk (hbox); have n2_ := Aside0.mk ((by rw [hg]; exact (below_size (by repeat (first | (with_reducible first | exact HB.out | apply below_alloc | apply pw_below_drewN | apply below_drew1) | exact HB.out))) : w.heap.size ≤ gb128)); have n3_ := Aside0.mk ((by rw [hg]; exact (below_size (by repeat (first | (with_reducible first | exact HB.out | apply below_alloc | apply pw_below_drewN | apply below_drew1) | exact HB.out))) : w.heap.size ≤ gb128)); clear HB; have HB := n0_; have BK128 := n1_; have GW128 := n2_; have GE128 := n3_; clear n0_ n1_ n2_ n3_; clear hb hbox hg) | ((with_reducible refine gate_dst (N := 3) rfl ?_); refine box_event ?hg (N := 3) ?hd (cs := #[.int .i64 a1_0, .int .i64 a1_1, .slice A1_2 l1_2.length c1_2, .slice A1_3 l1_3.length c1_3, .slice A1_4 l1_4.length c1_4, .bool a1_5]) (t := 45) ?hr ?_; (case hd => rfl); (case hg => rfl); (case hr => first | (go_simp; done) | (go_simp; rfl)); intro gb129 hg w11 hbox hb; have n0_ := Aside0.mk (blk_below (g := gb128) (o := .cells #[.int .i64 a0_0, .int .i64 a0_1, .slice A0_2 l0_2.length c0_2, .slice A0_3 l0_3.length c0_3, .slice A0_4 l0_4.length c0_4, .bool a0_5] 45 (0, 0)) (by (with_reducible repeat (first | refine blk_drewN ?_ _ | refine blk_drew ?_ | refine blk_alloc ?_ _)); exact BK128.out) hb); have n1_ := Aside0.mk (below_step (by repeat (first | (with_reducible first | exact HB.out | apply below_alloc | apply pw_below_drewN | apply below_drew1 | refine below_set ?_ GE128.out) | exact HB.out)) hb); have n2_ := Aside0.mk (hbox); have n3_ := Aside0.mk ((by rw [hg]; exact (below_size (by repeat (first | (with_reducible first | exact HB.out | apply below_alloc | apply pw_below_drewN | apply below_drew1 | refine below_set ?_ GE128.out) | exact HB.out))) : w.heap.size ≤ gb129)); have n4_ := Aside0.mk ((by rw [hg]; exact (below_size (by repeat (first | (with_reducible first | exact HB.out | apply below_alloc | apply pw_below_drewN | apply below_drew1 | refine below_set ?_ GE128.out) | exact HB.out))) : w.heap.size ≤ gb129)); have n5_ := Aside0.mk ((by rw [hg]; exact Nat.ne_of_lt (blk_lt (g := gb128) (o := .cells #[.int .i64 a0_0, .int .i64 a0_1, .slice A0_2 l0_2.length c0_2, .slice A0_3 l0_3.length c0_3, .slice A0_4 l0_4.length c0_4, .bool a0_5] 45 (0, 0)) (by (with_reducible repeat (first | refine blk_drewN ?_ _ | refine blk_drew ?_ | refine blk_alloc ?_ _)); exact BK128.out)) : gb128 ≠ gb129)); have n6_ := Aside0.mk ((by rw [hg]; exact Nat.ne_of_gt (blk_lt (g := gb128) (o := .cells #[.int .i64 a0_0, .int .i64 a0_1, .slice A0_2 l0_2.length c0_2, .slice A0_3 l0_3.length c0_3, .slice A0_4 l0_4.length c0_4, .bool a0_5] 45 (0, 0)) (by (with_reducible repeat (first | refine blk_drewN ?_ _ | refine blk_drew ?_ | refine blk_alloc ?_ _)); exact BK128.out)) : gb129 ≠ gb128)); clear BK128; clear HB; have BK128 := n0_; have HB := n1_; have BK129 := n2_; have GW129 := n3_; have GE129 := n4_; have NB128_129 := n5_; have NB129_128 := n6_; clear n0_ n1_ n2_ n3_ n4_ n5_ n6_; clear hb hbox hg; have hnb12 := NB128_129.out; have hnc12 := NB129_128.out; have hcz13_0 : w11.cell? ⟨gb128, 0, none⟩ = some (.int .i64 a0_0) := (blk_cell BK128.out 0).trans rfl; have hcz13_1 : w11.cell? ⟨gb128, 1, none⟩ = some (.int .i64 a0_1) := (blk_cell BK128.out 1).trans rfl; have hcz13_2 : w11.cell? ⟨gb128, 2, none⟩ = some (.slice A0_2 l0_2.length c0_2) := (blk_cell BK128.out 2).trans rfl; have hcz13_3 : w11.cell? ⟨gb128, 3, none⟩ = some (.slice A0_3 l0_3.length c0_3) := (blk_cell BK128.out 3).trans rfl; have hcz13_4 : w11.cell? ⟨gb128, 4, none⟩ = some (.slice A0_4 l0_4.length c0_4) := (blk_cell BK128.out 4).trans rfl; have hcz13_5 : w11.cell? ⟨gb128, 5, none⟩ = some (.bool a0_5) := (blk_cell BK128.out 5).trans rfl; have hfz13_0 := blk_frozen BK128.out 0; have hfz13_1 := blk_frozen BK128.out 1; have hfz13_2 := blk_frozen BK128.out 2; have hfz13_3 := blk_frozen BK128.out 3; have hfz13_4 := blk_frozen BK128.out 4; have hfz13_5 := blk_frozen BK128.out 5; have hcz14_0 : w11.cell? ⟨gb129, 0, none⟩ = some (.int .i64 a1_0) := (blk_cell BK129.out 0).trans rfl; have hcz14_1 : w11.cell? ⟨gb129, 1, none⟩ = some (.int .i64 a1_1) := (blk_cell BK129.out 1).trans rfl; have hcz14_2 : w11.cell? ⟨gb129, 2, none⟩ = some (.slice A1_2 l1_2.length c1_2) := (blk_cell BK129.out 2).trans rfl; have hcz14_3 : w11.cell? ⟨gb129, 3, none⟩ = some (.slice A1_3 l1_3.length c1_3) := (blk_cell BK129.out 3).trans rfl; have hcz14_4 : w11.cell? ⟨gb129, 4, none⟩ = some (.slice A1_4 l1_4.length c1_4) := (blk_cell BK129.out 4).trans rfl; have hcz14_5 : w11.cell? ⟨gb129, 5, none⟩ = some (.bool a1_5) := (blk_cell BK129.out 5).trans rfl; have hfz14_0 := blk_frozen BK129.out 0; have hfz14_1 := blk_frozen BK129.out 1; have hfz14_2 := blk_frozen BK129.out 2; have hfz14_3 := blk_frozen BK129.out 3; have hfz14_4 := blk_frozen BK129.out 4; have hfz14_5 := blk_frozen BK129.out 5) | ((with_reducible refine gate_callee (f := 22) rfl ?_); refine goesL_ (some 10) rfl rfl Tryd.func22 (by kernel_rfl) rfl #[.slice A0_2 l0_2.length c0_2, .slice A1_2 l1_2.length c1_2] rfl (by (try simp only [List.map_toArray, List.map_cons, List.map_nil]); first | done | rfl | (simp only [List.length_drop, List.length_take]; rfl)) ?_; (with_reducible refine (tallystickref04_Same.calls k _ _ l0_2 _ _ l1_2 true _ ?side1 ?side2 ?side3 ?side4 A3.out).mono ?_); (case side1 => repeat (first | exact (Kd.C_below HR0_2.out HB.out) | (with_reducible refine Kd.C_alloc ?_ _) | (with_reducible refine Kd.C_drewN ?_ _) | (with_reducible refine Kd.C_drew ?_))); (case side2 => exact HC0_2.out); (case side3 => repeat (first | exact (Kd.C_below HR1_2.out HB.out) | (with_reducible refine Kd.C_alloc ?_ _) | (with_reducible refine Kd.C_drewN ?_ _) | (with_reducible refine Kd.C_drew ?_))); (case side4 => exact HC1_2.out); rintro e w' ⟨rfl, ⟨nd, rfl⟩⟩; refine ⟨_, rfl, ?_⟩) | (go_at_call 22; (with_reducible refine (tallystickref04_Same.calls k _ _ l0_3 _ _ l1_3 true _ ?side1 ?side2 ?side3 ?side4 A5.out).mono ?_); (case side1 => repeat (first | exact (Kd.C_below HR0_3.out (by repeat (first | (with_reducible first | exact HB.out | apply below_alloc | apply pw_below_drewN | apply below_drew1 | refine below_set ?_ GE128.out | refine below_set ?_ GE129.out) | exact HB.out))) | (with_reducible refine Kd.C_alloc ?_ _) | (with_reducible refine Kd.C_drewN ?_ _) | (with_reducible refine Kd.C_drew ?_))); (case side2 => exact HC0_3.out); (case side3 => repeat (first | exact (Kd.C_below HR1_3.out (by repeat (first | (with_reducible first | exact HB.out | apply below_alloc | apply pw_below_drewN | apply below_drew1 | refine below_set ?_ GE128.out | refine below_set ?_ GE129.out) | exact HB.out))) | (with_reducible refine Kd.C_alloc ?_ _) | (with_reducible refine Kd.C_drewN ?_ _) | (with_reducible refine Kd.C_drew ?_))); (case side4 => exact HC1_3.out); rintro e w' ⟨rfl, ⟨nd, rfl⟩⟩) | (go_at_call 22; (with_reducible refine (tallystickref04_Same.calls k _ _ l0_4 _ _ l1_4 true _ ?side1 ?side2 ?side3 ?side4 A7.out).mono ?_); (case side1 => repeat (first | exact (Kd.C_below HR0_4.out (by repeat (first | (with_reducible first | exact HB.out | apply below_alloc | apply pw_below_drewN | apply below_drew1 | refine below_set ?_ GE128.out | refine below_set ?_ GE129.out) | exact HB.out))) | (with_reducible refine Kd.C_alloc ?_ _) | (with_reducible refine Kd.C_drewN ?_ _) | (with_reducible refine Kd.C_drew ?_))); (case side2 => exact HC0_4.out); (case side3 => repeat (first | exact (Kd.C_below HR1_4.out (by repeat (first | (with_reducible first | exact HB.out | apply below_alloc | apply pw_below_drewN | apply below_drew1 | refine below_set ?_ GE128.out | refine below_set ?_ GE129.out) | exact HB.out))) | (with_reducible refine Kd.C_alloc ?_ _) | (with_reducible refine Kd.C_drewN ?_ _) | (with_reducible refine Kd.C_drew ?_))); (case side4 => exact HC1_4.out); rintro e w' ⟨rfl, ⟨nd, rfl⟩⟩))
          go_ret
          exact ⟨by first | rfl | (simp [errW_none, errW_some] <;> rfl) | (simp [*, errW_none, errW_some] <;> rfl), by repeat (first | (with_reducible first | exact HB.out | apply below_alloc | apply pw_below_drewN | apply below_drew1 | refine below_set ?_ GE128.out | refine below_set ?_ GE129.out) | exact HB.out)⟩
        · rw [if_neg c9] at H
          have c9b0 : (a0_0 == a1_0 && (a0_1 == a1_1)) = false := by simpa using c9
          (try (have c9b1 : decide (a0_0 = a1_0 && (a0_1 == a1_1)) = false := by simpa using c9))
          (try (have c9b2 : (a0_0 == a1_0 && (a0_1 == a1_1)) = false := by simpa using c9))
          (try (have c9b3 : ¬ (a0_0 = a1_0 && (a0_1 == a1_1)) := by simpa using c9))
          clear c9
          obtain rfl := Option.some.inj H
          go_enter Tryd.func14, Tryd.ntmps14
          go_wp2_with (first | ((with_reducible refine gate_dst (N := 2) rfl ?_); refine box_event ?hg (N := 2) ?hd (cs := #[.int .i64 a0_0, .int .i64 a0_1, .slice A0_2 l0_2.length c0_2, .slice A0_3 l0_3.length c0_3, .slice A0_4 l0_4.length c0_4, .bool a0_5]) (t := 45) ?hr ?_; (case hd => rfl); (case hg => rfl); (case hr => first | (go_simp; done) | (go_simp; rfl)); intro gb128 hg w15 hbox hb; have n0_ := Aside0.mk (below_step (by repeat (first | (with_reducible first | exact HB.out | apply below_alloc | apply pw_below_drewN | apply below_drew1) | exact HB.out)) hb); have n1_ := Aside0.mk (hbox); have n2_ := Aside0.mk ((by rw [hg]; exact (below_size (by repeat (first | (with_reducible first | exact HB.out | apply below_alloc | apply pw_below_drewN | apply below_drew1) | exact HB.out))) : w.heap.size ≤ gb128)); have n3_ := Aside0.mk ((by rw [hg]; exact (below_size (by repeat (first | (with_reducible first | exact HB.out | apply below_alloc | apply pw_below_drewN | apply below_drew1) | exact HB.out))) : w.heap.size ≤ gb128)); clear HB; have HB := n0_; have BK128 := n1_; have GW128 := n2_; have GE128 := n3_; clear n0_ n1_ n2_ n3_; clear hb hbox hg) | ((with_reducible refine gate_dst (N := 3) rfl ?_); refine box_event ?hg (N := 3) ?hd (cs := #[.int .i64 a1_0, .int .i64 a1_1, .slice A1_2 l1_2.length c1_2, .slice A1_3 l1_3.length c1_3, .slice A1_4 l1_4.length c1_4, .bool a1_5]) (t := 45) ?hr ?_; (case hd => rfl); (case hg => rfl); (case hr => first | (go_simp; done) | (go_simp; rfl)); intro gb129 hg w16 hbox hb; have n0_ := Aside0.mk (blk_below (g := gb128) (o := .cells #[.int .i64 a0_0, .int .i64 a0_1, .slice A0_2 l0_2.length c0_2, .slice A0_3 l0_3.length c0_3, .slice A0_4 l0_4.length c0_4, .bool a0_5] 45 (0, 0)) (by (with_reducible repeat (first | refine blk_drewN ?_ _ | refine blk_drew ?_ | refine blk_alloc ?_ _)); exact BK128.out) hb); have n1_ := Aside0.mk (below_step (by repeat (first | (with_reducible first | exact HB.out | apply below_alloc | apply pw_below_drewN | apply below_drew1 | refine below_set ?_ GE128.out) | exact HB.out)) hb); have n2_ := Aside0.mk (hbox); have n3_ := Aside0.mk ((by rw [hg]; exact (below_size (by repeat (first | (with_reducible first | exact HB.out | apply below_alloc | apply pw_below_drewN | apply below_drew1 | refine below_set ?_ GE128.out) | exact HB.out))) : w.heap.size ≤ gb129)); have n4_ := Aside0.mk ((by rw [hg]; exact (below_size (by repeat (first | (with_reducible first | exact HB.out | apply below_alloc | apply pw_below_drewN | apply below_drew1 | refine below_set ?_ GE128.out) | exact HB.out))) : w.heap.size ≤ gb129)); have n5_ := Aside0.mk ((by rw [hg]; exact Nat.ne_of_lt (blk_lt (g := gb128) (o := .cells #[.int .i64 a0_0, .int .i64 a0_1, .slice A0_2 l0_2.length c0_2, .slice A0_3 l0_3.length c0_3, .slice A0_4 l0_4.length c0_4, .bool a0_5] 45 (0, 0)) (by (with_reducible repeat (first | refine blk_drewN ?_ _ | refine blk_drew ?_ | refine blk_alloc ?_ _)); exact BK128.out)) : gb128 ≠ gb129)); have n6_ := Aside0.mk ((by rw [hg]; exact Nat.ne_of_gt (blk_lt (g := gb128) (o := .cells #[.int .i64 a0_0, .int .i64 a0_1, .slice A0_2 l0_2.length c0_2, .slice A0_3 l0_3.length c0_3, .slice A0_4 l0_4.length c0_4, .bool a0_5] 45 (0, 0)) (by (with_reducible repeat (first | refine blk_drewN ?_ _ | refine blk_drew ?_ | refine blk_alloc ?_ _)); exact BK128.out)) : gb129 ≠ gb128)); clear BK128; clear HB; have BK128 := n0_; have HB := n1_; have BK129 := n2_; have GW129 := n3_; have GE129 := n4_; have NB128_129 := n5_; have NB129_128 := n6_; clear n0_ n1_ n2_ n3_ n4_ n5_ n6_; clear hb hbox hg; have hnb17 := NB128_129.out; have hnc17 := NB129_128.out; have hcz18_0 : w16.cell? ⟨gb128, 0, none⟩ = some (.int .i64 a0_0) := (blk_cell BK128.out 0).trans rfl; have hcz18_1 : w16.cell? ⟨gb128, 1, none⟩ = some (.int .i64 a0_1) := (blk_cell BK128.out 1).trans rfl; have hcz18_2 : w16.cell? ⟨gb128, 2, none⟩ = some (.slice A0_2 l0_2.length c0_2) := (blk_cell BK128.out 2).trans rfl; have hcz18_3 : w16.cell? ⟨gb128, 3, none⟩ = some (.slice A0_3 l0_3.length c0_3) := (blk_cell BK128.out 3).trans rfl; have hcz18_4 : w16.cell? ⟨gb128, 4, none⟩ = some (.slice A0_4 l0_4.length c0_4) := (blk_cell BK128.out 4).trans rfl; have hcz18_5 : w16.cell? ⟨gb128, 5, none⟩ = some (.bool a0_5) := (blk_cell BK128.out 5).trans rfl; have hfz18_0 := blk_frozen BK128.out 0; have hfz18_1 := blk_frozen BK128.out 1; have hfz18_2 := blk_frozen BK128.out 2; have hfz18_3 := blk_frozen BK128.out 3; have hfz18_4 := blk_frozen BK128.out 4; have hfz18_5 := blk_frozen BK128.out 5; have hcz19_0 : w16.cell? ⟨gb129, 0, none⟩ = some (.int .i64 a1_0) := (blk_cell BK129.out 0).trans rfl; have hcz19_1 : w16.cell? ⟨gb129, 1, none⟩ = some (.int .i64 a1_1) := (blk_cell BK129.out 1).trans rfl; have hcz19_2 : w16.cell? ⟨gb129, 2, none⟩ = some (.slice A1_2 l1_2.length c1_2) := (blk_cell BK129.out 2).trans rfl; have hcz19_3 : w16.cell? ⟨gb129, 3, none⟩ = some (.slice A1_3 l1_3.length c1_3) := (blk_cell BK129.out 3).trans rfl; have hcz19_4 : w16.cell? ⟨gb129, 4, none⟩ = some (.slice A1_4 l1_4.length c1_4) := (blk_cell BK129.out 4).trans rfl; have hcz19_5 : w16.cell? ⟨gb129, 5, none⟩ = some (.bool a1_5) := (blk_cell BK129.out 5).trans rfl; have hfz19_0 := blk_frozen BK129.out 0; have hfz19_1 := blk_frozen BK129.out 1; have hfz19_2 := blk_frozen BK129.out 2; have hfz19_3 := blk_frozen BK129.out 3; have hfz19_4 := blk_frozen BK129.out 4; have hfz19_5 := blk_frozen BK129.out 5) | ((with_reducible refine gate_callee (f := 22) rfl ?_); refine goesL_ (some 10) rfl rfl Tryd.func22 (by kernel_rfl) rfl #[.slice A0_2 l0_2.length c0_2, .slice A1_2 l1_2.length c1_2] rfl (by (try simp only [List.map_toArray, List.map_cons, List.map_nil]); first | done | rfl | (simp only [List.length_drop, List.length_take]; rfl)) ?_; (with_reducible refine (tallystickref04_Same.calls k _ _ l0_2 _ _ l1_2 true _ ?side1 ?side2 ?side3 ?side4 A3.out).mono ?_); (case side1 => repeat (first | exact (Kd.C_below HR0_2.out HB.out) | (with_reducible refine Kd.C_alloc ?_ _) | (with_reducible refine Kd.C_drewN ?_ _) | (with_reducible refine Kd.C_drew ?_))); (case side2 => exact HC0_2.out); (case side3 => repeat (first | exact (Kd.C_below HR1_2.out HB.out) | (with_reducible refine Kd.C_alloc ?_ _) | (with_reducible refine Kd.C_drewN ?_ _) | (with_reducible refine Kd.C_drew ?_))); (case side4 => exact HC1_2.out); rintro e w' ⟨rfl, ⟨nd, rfl⟩⟩; refine ⟨_, rfl, ?_⟩) | (go_at_call 22; (with_reducible refine (tallystickref04_Same.calls k _ _ l0_3 _ _ l1_3 true _ ?side1 ?side2 ?side3 ?side4 A5.out).mono ?_); (case side1 => repeat (first | exact (Kd.C_below HR0_3.out (by repeat (first | (with_reducible first | exact HB.out | apply below_alloc | apply pw_below_drewN | apply below_drew1 | refine below_set ?_ GE128.out | refine below_set ?_ GE129.out) | exact HB.out))) | (with_reducible refine Kd.C_alloc ?_ _) | (with_reducible refine Kd.C_drewN ?_ _) | (with_reducible refine Kd.C_drew ?_))); (case side2 => exact HC0_3.out); (case side3 => repeat (first | exact (Kd.C_below HR1_3.out (by repeat (first | (with_reducible first | exact HB.out | apply below_alloc | apply pw_below_drewN | apply below_drew1 | refine below_set ?_ GE128.out | refine below_set ?_ GE129.out) | exact HB.out))) | (with_reducible refine Kd.C_alloc ?_ _) | (with_reducible refine Kd.C_drewN ?_ _) | (with_reducible refine Kd.C_drew ?_))); (case side4 => exact HC1_3.out); rintro e w' ⟨rfl, ⟨nd, rfl⟩⟩) | (go_at_call 22; (with_reducible refine (tallystickref04_Same.calls k _ _ l0_4 _ _ l1_4 true _ ?side1 ?side2 ?side3 ?side4 A7.out).mono ?_); (case side1 => repeat (first | exact (Kd.C_below HR0_4.out (by repeat (first | (with_reducible first | exact HB.out | apply below_alloc | apply pw_below_drewN | apply below_drew1 | refine below_set ?_ GE128.out | refine below_set ?_ GE129.out) | exact HB.out))) | (with_reducible refine Kd.C_alloc ?_ _) | (with_reducible refine Kd.C_drewN ?_ _) | (with_reducible refine Kd.C_drew ?_))); (case side2 => exact HC0_4.out); (case side3 => repeat (first | exact (Kd.C_below HR1_4.out (by repeat (first | (with_reducible first | exact HB.out | apply below_alloc | apply pw_below_drewN | apply below_drew1 | refine below_set ?_ GE128.out | refine below_set ?_ GE129.out) | exact HB.out))) | (with_reducible refine Kd.C_alloc ?_ _) | (with_reducible refine Kd.C_drewN ?_ _) | (with_reducible refine Kd.C_drew ?_))); (case side4 => exact HC1_4.out); rintro e w' ⟨rfl, ⟨nd, rfl⟩⟩))
          go_ret
          exact ⟨by first | rfl | (simp [errW_none, errW_some] <;> rfl) | (simp [*, errW_none, errW_some] <;> rfl), by repeat (first | (with_reducible first | exact HB.out | apply below_alloc | apply pw_below_drewN | apply below_drew1 | refine below_set ?_ GE128.out | refine below_set ?_ GE129.out) | exact HB.out)⟩
      · replace c8 := Bool.eq_false_iff.mpr c8
        subst c8
        have H1 : (some false) = some r := by rw [if_neg (show ¬ (false = true) by decide)] at H; exact H
        clear H
        have H := H1
        clear H1
        obtain rfl := Option.some.inj H
        go_enter Tryd.func14, Tryd.ntmps14
        go_wp2_with (first | ((with_reducible refine gate_dst (N := 2) rfl ?_); refine box_event ?hg (N := 2) ?hd (cs := #[.int .i64 a0_0, .int .i64 a0_1, .slice A0_2 l0_2.length c0_2, .slice A0_3 l0_3.length c0_3, .slice A0_4 l0_4.length c0_4, .bool a0_5]) (t := 45) ?hr ?_; (case hd => rfl); (case hg => rfl); (case hr => first | (go_simp; done) | (go_simp; rfl)); intro gb128 hg w20 hbox hb; have n0_ := Aside0.mk (below_step (by repeat (first | (with_reducible first | exact HB.out | apply below_alloc | apply pw_below_drewN | apply below_drew1) | exact HB.out)) hb); have n1_ := Aside0.mk (hbox); have n2_ := Aside0.mk ((by rw [hg]; exact (below_size (by repeat (first | (with_reducible first | exact HB.out | apply below_alloc | apply pw_below_drewN | apply below_drew1) | exact HB.out))) : w.heap.size ≤ gb128)); have n3_ := Aside0.mk ((by rw [hg]; exact (below_size (by repeat (first | (with_reducible first | exact HB.out | apply below_alloc | apply pw_below_drewN | apply below_drew1) | exact HB.out))) : w.heap.size ≤ gb128)); clear HB; have HB := n0_; have BK128 := n1_; have GW128 := n2_; have GE128 := n3_; clear n0_ n1_ n2_ n3_; clear hb hbox hg) | ((with_reducible refine gate_dst (N := 3) rfl ?_); refine box_event ?hg (N := 3) ?hd (cs := #[.int .i64 a1_0, .int .i64 a1_1, .slice A1_2 l1_2.length c1_2, .slice A1_3 l1_3.length c1_3, .slice A1_4 l1_4.length c1_4, .bool a1_5]) (t := 45) ?hr ?_; (case hd => rfl); (case hg => rfl); (case hr => first | (go_simp; done) | (go_simp; rfl)); intro gb129 hg w21 hbox hb; have n0_ := Aside0.mk (blk_below (g := gb128) (o := .cells #[.int .i64 a0_0, .int .i64 a0_1, .slice A0_2 l0_2.length c0_2, .slice A0_3 l0_3.length c0_3, .slice A0_4 l0_4.length c0_4, .bool a0_5] 45 (0, 0)) (by (with_reducible repeat (first | refine blk_drewN ?_ _ | refine blk_drew ?_ | refine blk_alloc ?_ _)); exact BK128.out) hb); have n1_ := Aside0.mk (below_step (by repeat (first | (with_reducible first | exact HB.out | apply below_alloc | apply pw_below_drewN | apply below_drew1 | refine below_set ?_ GE128.out) | exact HB.out)) hb); have n2_ := Aside0.mk (hbox); have n3_ := Aside0.mk ((by rw [hg]; exact (below_size (by repeat (first | (with_reducible first | exact HB.out | apply below_alloc | apply pw_below_drewN | apply below_drew1 | refine below_set ?_ GE128.out) | exact HB.out))) : w.heap.size ≤ gb129)); have n4_ := Aside0.mk ((by rw [hg]; exact (below_size (by repeat (first | (with_reducible first | exact HB.out | apply below_alloc | apply pw_below_drewN | apply below_drew1 | refine below_set ?_ GE128.out) | exact HB.out))) : w.heap.size ≤ gb129)); have n5_ := Aside0.mk ((by rw [hg]; exact Nat.ne_of_lt (blk_lt (g := gb128) (o := .cells #[.int .i64 a0_0, .int .i64 a0_1, .slice A0_2 l0_2.length c0_2, .slice A0_3 l0_3.length c0_3, .slice A0_4 l0_4.length c0_4, .bool a0_5] 45 (0, 0)) (by (with_reducible repeat (first | refine blk_drewN ?_ _ | refine blk_drew ?_ | refine blk_alloc ?_ _)); exact BK128.out)) : gb128 ≠ gb129)); have n6_ := Aside0.mk ((by rw [hg]; exact Nat.ne_of_gt (blk_lt (g := gb128) (o := .cells #[.int .i64 a0_0, .int .i64 a0_1, .slice A0_2 l0_2.length c0_2, .slice A0_3 l0_3.length c0_3, .slice A0_4 l0_4.length c0_4, .bool a0_5] 45 (0, 0)) (by (with_reducible repeat (first | refine blk_drewN ?_ _ | refine blk_drew ?_ | refine blk_alloc ?_ _)); exact BK128.out)) : gb129 ≠ gb128)); clear BK128; clear HB; have BK128 := n0_; have HB := n1_; have BK129 := n2_; have GW129 := n3_; have GE129 := n4_; have NB128_129 := n5_; have NB129_128 := n6_; clear n0_ n1_ n2_ n3_ n4_ n5_ n6_; clear hb hbox hg; have hnb22 := NB128_129.out; have hnc22 := NB129_128.out; have hcz23_0 : w21.cell? ⟨gb128, 0, none⟩ = some (.int .i64 a0_0) := (blk_cell BK128.out 0).trans rfl; have hcz23_1 : w21.cell? ⟨gb128, 1, none⟩ = some (.int .i64 a0_1) := (blk_cell BK128.out 1).trans rfl; have hcz23_2 : w21.cell? ⟨gb128, 2, none⟩ = some (.slice A0_2 l0_2.length c0_2) := (blk_cell BK128.out 2).trans rfl; have hcz23_3 : w21.cell? ⟨gb128, 3, none⟩ = some (.slice A0_3 l0_3.length c0_3) := (blk_cell BK128.out 3).trans rfl; have hcz23_4 : w21.cell? ⟨gb128, 4, none⟩ = some (.slice A0_4 l0_4.length c0_4) := (blk_cell BK128.out 4).trans rfl; have hcz23_5 : w21.cell? ⟨gb128, 5, none⟩ = some (.bool a0_5) := (blk_cell BK128.out 5).trans rfl; have hfz23_0 := blk_frozen BK128.out 0; have hfz23_1 := blk_frozen BK128.out 1; have hfz23_2 := blk_frozen BK128.out 2; have hfz23_3 := blk_frozen BK128.out 3; have hfz23_4 := blk_frozen BK128.out 4; have hfz23_5 := blk_frozen BK128.out 5; have hcz24_0 : w21.cell? ⟨gb129, 0, none⟩ = some (.int .i64 a1_0) := (blk_cell BK129.out 0).trans rfl; have hcz24_1 : w21.cell? ⟨gb129, 1, none⟩ = some (.int .i64 a1_1) := (blk_cell BK129.out 1).trans rfl; have hcz24_2 : w21.cell? ⟨gb129, 2, none⟩ = some (.slice A1_2 l1_2.length c1_2) := (blk_cell BK129.out 2).trans rfl; have hcz24_3 : w21.cell? ⟨gb129, 3, none⟩ = some (.slice A1_3 l1_3.length c1_3) := (blk_cell BK129.out 3).trans rfl; have hcz24_4 : w21.cell? ⟨gb129, 4, none⟩ = some (.slice A1_4 l1_4.length c1_4) := (blk_cell BK129.out 4).trans rfl; have hcz24_5 : w21.cell? ⟨gb129, 5, none⟩ = some (.bool a1_5) := (blk_cell BK129.out 5).trans rfl; have hfz24_0 := blk_frozen BK129.out 0; have hfz24_1 := blk_frozen BK129.out 1; have hfz24_2 := blk_frozen BK129.out 2; have hfz24_3 := blk_frozen BK129.out 3; have hfz24_4 := blk_frozen BK129.out 4; have hfz24_5 := blk_frozen BK129.out 5) | ((with_reducible refine gate_callee (f := 22) rfl ?_); refine goesL_ (some 10) rfl rfl Tryd.func22 (by kernel_rfl) rfl #[.slice A0_2 l0_2.length c0_2, .slice A1_2 l1_2.length c1_2] rfl (by (try simp only [List.map_toArray, List.map_cons, List.map_nil]); first | done | rfl | (simp only [List.length_drop, List.length_take]; rfl)) ?_; (with_reducible refine (tallystickref04_Same.calls k _ _ l0_2 _ _ l1_2 true _ ?side1 ?side2 ?side3 ?side4 A3.out).mono ?_); (case side1 => repeat (first | exact (Kd.C_below HR0_2.out HB.out) | (with_reducible refine Kd.C_alloc ?_ _) | (with_reducible refine Kd.C_drewN ?_ _) | (with_reducible refine Kd.C_drew ?_))); (case side2 => exact HC0_2.out); (case side3 => repeat (first | exact (Kd.C_below HR1_2.out HB.out) | (with_reducible refine Kd.C_alloc ?_ _) | (with_reducible refine Kd.C_drewN ?_ _) | (with_reducible refine Kd.C_drew ?_))); (case side4 => exact HC1_2.out); rintro e w' ⟨rfl, ⟨nd, rfl⟩⟩; refine ⟨_, rfl, ?_⟩) | (go_at_call 22; (with_reducible refine (tallystickref04_Same.calls k _ _ l0_3 _ _ l1_3 true _ ?side1 ?side2 ?side3 ?side4 A5.out).mono ?_); (case side1 => repeat (first | exact (Kd.C_below HR0_3.out (by repeat (first | (with_reducible first | exact HB.out | apply below_alloc | apply pw_below_drewN | apply below_drew1 | refine below_set ?_ GE128.out | refine below_set ?_ GE129.out) | exact HB.out))) | (with_reducible refine Kd.C_alloc ?_ _) | (with_reducible refine Kd.C_drewN ?_ _) | (with_reducible refine Kd.C_drew ?_))); (case side2 => exact HC0_3.out); (case side3 => repeat (first | exact (Kd.C_below HR1_3.out (by repeat (first | (with_reducible first | exact HB.out | apply below_alloc | apply pw_below_drewN | apply below_drew1 | refine below_set ?_ GE128.out | refine below_set ?_ GE129.out) | exact HB.out))) | (with_reducible refine Kd.C_alloc ?_ _) | (with_reducible refine Kd.C_drewN ?_ _) | (with_reducible refine Kd.C_drew ?_))); (case side4 => exact HC1_3.out); rintro e w' ⟨rfl, ⟨nd, rfl⟩⟩) | (go_at_call 22; (with_reducible refine (tallystickref04_Same.calls k _ _ l0_4 _ _ l1_4 false _ ?side1 ?side2 ?side3 ?side4 A7.out).mono ?_); (case side1 => repeat (first | exact (Kd.C_below HR0_4.out (by repeat (first | (with_reducible first | exact HB.out | apply below_alloc | apply pw_below_drewN | apply below_drew1 | refine below_set ?_ GE128.out | refine below_set ?_ GE129.out) | exact HB.out))) | (with_reducible refine Kd.C_alloc ?_ _) | (with_reducible refine Kd.C_drewN ?_ _) | (with_reducible refine Kd.C_drew ?_))); (case side2 => exact HC0_4.out); (case side3 => repeat (first | exact (Kd.C_below HR1_4.out (by repeat (first | (with_reducible first | exact HB.out | apply below_alloc | apply pw_below_drewN | apply below_drew1 | refine below_set ?_ GE128.out | refine below_set ?_ GE129.out) | exact HB.out))) | (with_reducible refine Kd.C_alloc ?_ _) | (with_reducible refine Kd.C_drewN ?_ _) | (with_reducible refine Kd.C_drew ?_))); (case side4 => exact HC1_4.out); rintro e w' ⟨rfl, ⟨nd, rfl⟩⟩))
        go_ret
        exact ⟨by first | rfl | (simp [errW_none, errW_some] <;> rfl) | (simp [*, errW_none, errW_some] <;> rfl), by repeat (first | (with_reducible first | exact HB.out | apply below_alloc | apply pw_below_drewN | apply below_drew1 | refine below_set ?_ GE128.out | refine below_set ?_ GE129.out) | exact HB.out)⟩
    · replace c6 := Bool.eq_false_iff.mpr c6
      subst c6
      have H1 : (some false) = some r := by rw [if_neg (show ¬ (false = true) by decide)] at H; exact H
      clear H
      have H := H1
      clear H1
      obtain rfl := Option.some.inj H
      go_enter Tryd.func14, Tryd.ntmps14
      go_wp2_with (first | ((with_reducible refine gate_dst (N := 2) rfl ?_); refine box_event ?hg (N := 2) ?hd (cs := #[.int .i64 a0_0, .int .i64 a0_1, .slice A0_2 l0_2.length c0_2, .slice A0_3 l0_3.length c0_3, .slice A0_4 l0_4.length c0_4, .bool a0_5]) (t := 45) ?hr ?_; (case hd => rfl); (case hg => rfl); (case hr => first | (go_simp; done) | (go_simp; rfl)); intro gb128 hg w25 hbox hb; have n0_ := Aside0.mk (below_step (by repeat (first | (with_reducible first | exact HB.out | apply below_alloc | apply pw_below_drewN | apply below_drew1) | exact HB.out)) hb); have n1_ := Aside0.mk (hbox); have n2_ := Aside0.mk ((by rw [hg]; exact (below_size (by repeat (first | (with_reducible first | exact HB.out | apply below_alloc | apply pw_below_drewN | apply below_drew1) | exact HB.out))) : w.heap.size ≤ gb128)); have n3_ := Aside0.mk ((by rw [hg]; exact (below_size (by repeat (first | (with_reducible first | exact HB.out | apply below_alloc | apply pw_below_drewN | apply below_drew1) | exact HB.out))) : w.heap.size ≤ gb128)); clear HB; have HB := n0_; have BK128 := n1_; have GW128 := n2_; have GE128 := n3_; clear n0_ n1_ n2_ n3_; clear hb hbox hg) | ((with_reducible refine gate_dst (N := 3) rfl ?_); refine box_event ?hg (N := 3) ?hd (cs := #[.int .i64 a1_0, .int .i64 a1_1, .slice A1_2 l1_2.length c1_2, .slice A1_3 l1_3.length c1_3, .slice A1_4 l1_4.length c1_4, .bool a1_5]) (t := 45) ?hr ?_; (case hd => rfl); (case hg => rfl); (case hr => first | (go_simp; done) | (go_simp; rfl)); intro gb129 hg w26 hbox hb; have n0_ := Aside0.mk (blk_below (g := gb128) (o := .cells #[.int .i64 a0_0, .int .i64 a0_1, .slice A0_2 l0_2.length c0_2, .slice A0_3 l0_3.length c0_3, .slice A0_4 l0_4.length c0_4, .bool a0_5] 45 (0, 0)) (by (with_reducible repeat (first | refine blk_drewN ?_ _ | refine blk_drew ?_ | refine blk_alloc ?_ _)); exact BK128.out) hb); have n1_ := Aside0.mk (below_step (by repeat (first | (with_reducible first | exact HB.out | apply below_alloc | apply pw_below_drewN | apply below_drew1 | refine below_set ?_ GE128.out) | exact HB.out)) hb); have n2_ := Aside0.mk (hbox); have n3_ := Aside0.mk ((by rw [hg]; exact (below_size (by repeat (first | (with_reducible first | exact HB.out | apply below_alloc | apply pw_below_drewN | apply below_drew1 | refine below_set ?_ GE128.out) | exact HB.out))) : w.heap.size ≤ gb129)); have n4_ := Aside0.mk ((by rw [hg]; exact (below_size (by repeat (first | (with_reducible first | exact HB.out | apply below_alloc | apply pw_below_drewN | apply below_drew1 | refine below_set ?_ GE128.out) | exact HB.out))) : w.heap.size ≤ gb129)); have n5_ := Aside0.mk ((by rw [hg]; exact Nat.ne_of_lt (blk_lt (g := gb128) (o := .cells #[.int .i64 a0_0, .int .i64 a0_1, .slice A0_2 l0_2.length c0_2, .slice A0_3 l0_3.length c0_3, .slice A0_4 l0_4.length c0_4, .bool a0_5] 45 (0, 0)) (by (with_reducible repeat (first | refine blk_drewN ?_ _ | refine blk_drew ?_ | refine blk_alloc ?_ _)); exact BK128.out)) : gb128 ≠ gb129)); have n6_ := Aside0.mk ((by rw [hg]; exact Nat.ne_of_gt (blk_lt (g := gb128) (o := .cells #[.int .i64 a0_0, .int .i64 a0_1, .slice A0_2 l0_2.length c0_2, .slice A0_3 l0_3.length c0_3, .slice A0_4 l0_4.length c0_4, .bool a0_5] 45 (0, 0)) (by (with_reducible repeat (first | refine blk_drewN ?_ _ | refine blk_drew ?_ | refine blk_alloc ?_ _)); exact BK128.out)) : gb129 ≠ gb128)); clear BK128; clear HB; have BK128 := n0_; have HB := n1_; have BK129 := n2_; have GW129 := n3_; have GE129 := n4_; have NB128_129 := n5_; have NB129_128 := n6_; clear n0_ n1_ n2_ n3_ n4_ n5_ n6_; clear hb hbox hg; have hnb27 := NB128_129.out; have hnc27 := NB129_128.out; have hcz28_0 : w26.cell? ⟨gb128, 0, none⟩ = some (.int .i64 a0_0) := (blk_cell BK128.out 0).trans rfl; have hcz28_1 : w26.cell? ⟨gb128, 1, none⟩ = some (.int .i64 a0_1) := (blk_cell BK128.out 1).trans rfl; have hcz28_2 : w26.cell? ⟨gb128, 2, none⟩ = some (.slice A0_2 l0_2.length c0_2) := (blk_cell BK128.out 2).trans rfl; have hcz28_3 : w26.cell? ⟨gb128, 3, none⟩ = some (.slice A0_3 l0_3.length c0_3) := (blk_cell BK128.out 3).trans rfl; have hcz28_4 : w26.cell? ⟨gb128, 4, none⟩ = some (.slice A0_4 l0_4.length c0_4) := (blk_cell BK128.out 4).trans rfl; have hcz28_5 : w26.cell? ⟨gb128, 5, none⟩ = some (.bool a0_5) := (blk_cell BK128.out 5).trans rfl; have hfz28_0 := blk_frozen BK128.out 0; have hfz28_1 := blk_frozen BK128.out 1; have hfz28_2 := blk_frozen BK128.out 2; have hfz28_3 := blk_frozen BK128.out 3; have hfz28_4 := blk_frozen BK128.out 4; have hfz28_5 := blk_frozen BK128.out 5; have hcz29_0 : w26.cell? ⟨gb129, 0, none⟩ = some (.int .i64 a1_0) := (blk_cell BK129.out 0).trans rfl; have hcz29_1 : w26.cell? ⟨gb129, 1, none⟩ = some (.int .i64 a1_1) := (blk_cell BK129.out 1).trans rfl; have hcz29_2 : w26.cell? ⟨gb129, 2, none⟩ = some (.slice A1_2 l1_2.length c1_2) := (blk_cell BK129.out 2).trans rfl; have hcz29_3 : w26.cell? ⟨gb129, 3, none⟩ = some (.slice A1_3 l1_3.length c1_3) := (blk_cell BK129.out 3).trans rfl; have hcz29_4 : w26.cell? ⟨gb129, 4, none⟩ = some (.slice A1_4 l1_4.length c1_4) := (blk_cell BK129.out 4).trans rfl; have hcz29_5 : w26.cell? ⟨gb129, 5, none⟩ = some (.bool a1_5) := (blk_cell BK129.out 5).trans rfl; have hfz29_0 := blk_frozen BK129.out 0; have hfz29_1 := blk_frozen BK129.out 1; have hfz29_2 := blk_frozen BK129.out 2; have hfz29_3 := blk_frozen BK129.out 3; have hfz29_4 := blk_frozen BK129.out 4; have hfz29_5 := blk_frozen BK129.out 5) | ((with_reducible refine gate_callee (f := 22) rfl ?_); refine goesL_ (some 10) rfl rfl Tryd.func22 (by kernel_rfl) rfl #[.slice A0_2 l0_2.length c0_2, .slice A1_2 l1_2.length c1_2] rfl (by (try simp only [List.map_toArray, List.map_cons, List.map_nil]); first | done | rfl | (simp only [List.length_drop, List.length_take]; rfl)) ?_; (with_reducible refine (tallystickref04_Same.calls k _ _ l0_2 _ _ l1_2 true _ ?side1 ?side2 ?side3 ?side4 A3.out).mono ?_); (case side1 => repeat (first | exact (Kd.C_below HR0_2.out HB.out) | (with_reducible refine Kd.C_alloc ?_ _) | (with_reducible refine Kd.C_drewN ?_ _) | (with_reducible refine Kd.C_drew ?_))); (case side2 => exact HC0_2.out); (case side3 => repeat (first | exact (Kd.C_below HR1_2.out HB.out) | (with_reducible refine Kd.C_alloc ?_ _) | (with_reducible refine Kd.C_drewN ?_ _) | (with_reducible refine Kd.C_drew ?_))); (case side4 => exact HC1_2.out); rintro e w' ⟨rfl, ⟨nd, rfl⟩⟩; refine ⟨_, rfl, ?_⟩) | (go_at_call 22; (with_reducible refine (tallystickref04_Same.calls k _ _ l0_3 _ _ l1_3 false _ ?side1 ?side2 ?side3 ?side4 A5.out).mono ?_); (case side1 => repeat (first | exact (Kd.C_below HR0_3.out (by repeat (first | (with_reducible first | exact HB.out | apply below_alloc | apply pw_below_drewN | apply below_drew1 | refine below_set ?_ GE128.out | refine below_set ?_ GE129.out) | exact HB.out))) | (with_reducible refine Kd.C_alloc ?_ _) | (with_reducible refine Kd.C_drewN ?_ _) | (with_reducible refine Kd.C_drew ?_))); (case side2 => exact HC0_3.out); (case side3 => repeat (first | exact (Kd.C_below HR1_3.out (by repeat (first | (with_reducible first | exact HB.out | apply below_alloc | apply pw_below_drewN | apply below_drew1 | refine below_set ?_ GE128.out | refine below_set ?_ GE129.out) | exact HB.out))) | (with_reducible refine Kd.C_alloc ?_ _) | (with_reducible refine Kd.C_drewN ?_ _) | (with_reducible refine Kd.C_drew ?_))); (case side4 => exact HC1_3.out); rintro e w' ⟨rfl, ⟨nd, rfl⟩⟩))
      go_ret
      exact ⟨by first | rfl | (simp [errW_none, errW_some] <;> rfl) | (simp [*, errW_none, errW_some] <;> rfl), by repeat (first | (with_reducible first | exact HB.out | apply below_alloc | apply pw_below_drewN | apply below_drew1 | refine below_set ?_ GE128.out | refine below_set ?_ GE129.out) | exact HB.out)⟩
  · replace c4 := Bool.eq_false_iff.mpr c4
    subst c4
    have H1 : (some false) = some r := by rw [if_neg (show ¬ (false = true) by decide)] at H; exact H
    clear H
    have H := H1
    clear H1
    obtain rfl := Option.some.inj H
    go_enter Tryd.func14, Tryd.ntmps14
    go_wp2_with (first | ((with_reducible refine gate_dst (N := 2) rfl ?_); refine box_event ?hg (N := 2) ?hd (cs := #[.int .i64 a0_0, .int .i64 a0_1, .slice A0_2 l0_2.length c0_2, .slice A0_3 l0_3.length c0_3, .slice A0_4 l0_4.length c0_4, .bool a0_5]) (t := 45) ?hr ?_; (case hd => rfl); (case hg => rfl); (case hr => first | (go_simp; done) | (go_simp; rfl)); intro gb128 hg w30 hbox hb; have n0_ := Aside0.mk (below_step (by repeat (first | (with_reducible first | exact HB.out | apply below_alloc | apply pw_below_drewN | apply below_drew1) | exact HB.out)) hb); have n1_ := Aside0.mk (hbox); have n2_ := Aside0.mk ((by rw [hg]; exact (below_size (by repeat (first | (with_reducible first | exact HB.out | apply below_alloc | apply pw_below_drewN | apply below_drew1) | exact HB.out))) : w.heap.size ≤ gb128)); have n3_ := Aside0.mk ((by rw [hg]; exact (below_size (by repeat (first | (with_reducible first | exact HB.out | apply below_alloc | apply pw_below_drewN | apply below_drew1) | exact HB.out))) : w.heap.size ≤ gb128)); clear HB; have HB := n0_; have BK128 := n1_; have GW128 := n2_; have GE128 := n3_; clear n0_ n1_ n2_ n3_; clear hb hbox hg) | ((with_reducible refine gate_dst (N := 3) rfl ?_); refine box_event ?hg (N := 3) ?hd (cs := #[.int .i64 a1_0, .int .i64 a1_1, .slice A1_2 l1_2.length c1_2, .slice A1_3 l1_3.length c1_3, .slice A1_4 l1_4.length c1_4, .bool a1_5]) (t := 45) ?hr ?_; (case hd => rfl); (case hg => rfl); (case hr => first | (go_simp; done) | (go_simp; rfl)); intro gb129 hg w31 hbox hb; have n0_ := Aside0.mk (blk_below (g := gb128) (o := .cells #[.int .i64 a0_0, .int .i64 a0_1, .slice A0_2 l0_2.length c0_2, .slice A0_3 l0_3.length c0_3, .slice A0_4 l0_4.length c0_4, .bool a0_5] 45 (0, 0)) (by (with_reducible repeat (first | refine blk_drewN ?_ _ | refine blk_drew ?_ | refine blk_alloc ?_ _)); exact BK128.out) hb); have n1_ := Aside0.mk (below_step (by repeat (first | (with_reducible first | exact HB.out | apply below_alloc | apply pw_below_drewN | apply below_drew1 | refine below_set ?_ GE128.out) | exact HB.out)) hb); have n2_ := Aside0.mk (hbox); have n3_ := Aside0.mk ((by rw [hg]; exact (below_size (by repeat (first | (with_reducible first | exact HB.out | apply below_alloc | apply pw_below_drewN | apply below_drew1 | refine below_set ?_ GE128.out) | exact HB.out))) : w.heap.size ≤ gb129)); have n4_ := Aside0.mk ((by rw [hg]; exact (below_size (by repeat (first | (with_reducible first | exact HB.out | apply below_alloc | apply pw_below_drewN | apply below_drew1 | refine below_set ?_ GE128.out) | exact HB.out))) : w.heap.size ≤ gb129)); have n5_ := Aside0.mk ((by rw [hg]; exact Nat.ne_of_lt (blk_lt (g := gb128) (o := .cells #[.int .i64 a0_0, .int .i64 a0_1, .slice A0_2 l0_2.length c0_2, .slice A0_3 l0_3.length c0_3, .slice A0_4 l0_4.length c0_4, .bool a0_5] 45 (0, 0)) (by (with_reducible repeat (first | refine blk_drewN ?_ _ | refine blk_drew ?_ | refine blk_alloc ?_ _)); exact BK128.out)) : gb128 ≠ gb129)); have n6_ := Aside0.mk ((by rw [hg]; exact Nat.ne_of_gt (blk_lt (g := gb128) (o := .cells #[.int .i64 a0_0, .int .i64 a0_1, .slice A0_2 l0_2.length c0_2, .slice A0_3 l0_3.length c0_3, .slice A0_4 l0_4.length c0_4, .bool a0_5] 45 (0, 0)) (by (with_reducible repeat (first | refine blk_drewN ?_ _ | refine blk_drew ?_ | refine blk_alloc ?_ _)); exact BK128.out)) : gb129 ≠ gb128)); clear BK128; clear HB; have BK128 := n0_; have HB := n1_; have BK129 := n2_; have GW129 := n3_; have GE129 := n4_; have NB128_129 := n5_; have NB129_128 := n6_; clear n0_ n1_ n2_ n3_ n4_ n5_ n6_; clear hb hbox hg; have hnb32 := NB128_129.out; have hnc32 := NB129_128.out; have hcz33_0 : w31.cell? ⟨gb128, 0, none⟩ = some (.int .i64 a0_0) := (blk_cell BK128.out 0).trans rfl; have hcz33_1 : w31.cell? ⟨gb128, 1, none⟩ = some (.int .i64 a0_1) := (blk_cell BK128.out 1).trans rfl; have hcz33_2 : w31.cell? ⟨gb128, 2, none⟩ = some (.slice A0_2 l0_2.length c0_2) := (blk_cell BK128.out 2).trans rfl; have hcz33_3 : w31.cell? ⟨gb128, 3, none⟩ = some (.slice A0_3 l0_3.length c0_3) := (blk_cell BK128.out 3).trans rfl; have hcz33_4 : w31.cell? ⟨gb128, 4, none⟩ = some (.slice A0_4 l0_4.length c0_4) := (blk_cell BK128.out 4).trans rfl; have hcz33_5 : w31.cell? ⟨gb128, 5, none⟩ = some (.bool a0_5) := (blk_cell BK128.out 5).trans rfl; have hfz33_0 := blk_frozen BK128.out 0; have hfz33_1 := blk_frozen BK128.out 1; have hfz33_2 := blk_frozen BK128.out 2; have hfz33_3 := blk_frozen BK128.out 3; have hfz33_4 := blk_frozen BK128.out 4; have hfz33_5 := blk_frozen BK128.out 5; have hcz34_0 : w31.cell? ⟨gb129, 0, none⟩ = some (.int .i64 a1_0) := (blk_cell BK129.out 0).trans rfl; have hcz34_1 : w31.cell? ⟨gb129, 1, none⟩ = some (.int .i64 a1_1) := (blk_cell BK129.out 1).trans rfl; have hcz34_2 : w31.cell? ⟨gb129, 2, none⟩ = some (.slice A1_2 l1_2.length c1_2) := (blk_cell BK129.out 2).trans rfl; have hcz34_3 : w31.cell? ⟨gb129, 3, none⟩ = some (.slice A1_3 l1_3.length c1_3) := (blk_cell BK129.out 3).trans rfl; have hcz34_4 : w31.cell? ⟨gb129, 4, none⟩ = some (.slice A1_4 l1_4.length c1_4) := (blk_cell BK129.out 4).trans rfl; have hcz34_5 : w31.cell? ⟨gb129, 5, none⟩ = some (.bool a1_5) := (blk_cell BK129.out 5).trans rfl; have hfz34_0 := blk_frozen BK129.out 0; have hfz34_1 := blk_frozen BK129.out 1; have hfz34_2 := blk_frozen BK129.out 2; have hfz34_3 := blk_frozen BK129.out 3; have hfz34_4 := blk_frozen BK129.out 4; have hfz34_5 := blk_frozen BK129.out 5) | ((with_reducible refine gate_callee (f := 22) rfl ?_); refine goesL_ (some 10) rfl rfl Tryd.func22 (by kernel_rfl) rfl #[.slice A0_2 l0_2.length c0_2, .slice A1_2 l1_2.length c1_2] rfl (by (try simp only [List.map_toArray, List.map_cons, List.map_nil]); first | done | rfl | (simp only [List.length_drop, List.length_take]; rfl)) ?_; (with_reducible refine (tallystickref04_Same.calls k _ _ l0_2 _ _ l1_2 false _ ?side1 ?side2 ?side3 ?side4 A3.out).mono ?_); (case side1 => repeat (first | exact (Kd.C_below HR0_2.out HB.out) | (with_reducible refine Kd.C_alloc ?_ _) | (with_reducible refine Kd.C_drewN ?_ _) | (with_reducible refine Kd.C_drew ?_))); (case side2 => exact HC0_2.out); (case side3 => repeat (first | exact (Kd.C_below HR1_2.out HB.out) | (with_reducible refine Kd.C_alloc ?_ _) | (with_reducible refine Kd.C_drewN ?_ _) | (with_reducible refine Kd.C_drew ?_))); (case side4 => exact HC1_2.out); rintro e w' ⟨rfl, ⟨nd, rfl⟩⟩; refine ⟨_, rfl, ?_⟩))
    go_ret
    exact ⟨by first | rfl | (simp [errW_none, errW_some] <;> rfl) | (simp [*, errW_none, errW_some] <;> rfl), by repeat (first | (with_reducible first | exact HB.out | apply below_alloc | apply pw_below_drewN | apply below_drew1 | refine below_set ?_ GE128.out | refine below_set ?_ GE129.out) | exact HB.out)⟩

end Go.Proofs.YtbpobnlkfpjijaaDoorR.Pr
end
-- Pr32
section
namespace Go.Proofs.YtbpobnlkfpjijaaDoorR.Pr
open Go.RowKit Go.Proofs.YtbpobnlkfpjijaaDoorRW.PrintWords Go.Proofs.YtbpobnlkfpjijaaDoorRW.PrintLast Go.Proofs.YtbpobnlkfpjijaaDoorRW.PrintMore
attribute [local go_sem] max2_int min2_int max_two min_two max_three min_three max_four min_four   -- for this text's walks alone
set_option linter.unusedVariables false
set_option linter.unusedSimpArgs false

attribute [local go_sem] Go.Proofs.Aid.cell_set_row
def tallystickref16_Parts.l0 : Nat → List (S45) → List (S45) → Int → Option (Bool)
  | 0, _, _, _ => none
  | k + 1, x0, x1, x5 => if x5 < (x0.length : Int) then (if 0 ≤ x5 then (if x5 < (x1.length : Int) then ((tallystickref14_SamePart.f k ((rd_T45 x0 x5).f0.f0) ((rd_T45 x0 x5).f0.f1) ((rd_T45 x0 x5).f1) ((rd_T45 x0 x5).f2) ((rd_T45 x0 x5).f3) ((rd_T45 x0 x5).f4) ((rd_T45 x1 x5).f0.f0) ((rd_T45 x1 x5).f0.f1) ((rd_T45 x1 x5).f1) ((rd_T45 x1 x5).f2) ((rd_T45 x1 x5).f3) ((rd_T45 x1 x5).f4)).bind fun t135 => (if t135 = true then (tallystickref16_Parts.l0 k x0 x1 (wrap64 (x5 + 1))) else (some false))) else (none)) else (none)) else (some true)
def tallystickref16_Parts.f (k : Nat) (l0 : List (S45)) (l1 : List (S45)) : Option (Bool) := if (l0.length : Int) = (l1.length : Int) then (tallystickref16_Parts.l0 k l0 l1 0) else (some false)
theorem tallystickref16_Parts.mono_l : ∀ k, (∀ y0 y1 y2, LeO (tallystickref16_Parts.l0 k y0 y1 y2) (tallystickref16_Parts.l0 (k + 1) y0 y1 y2))
  | 0 => fun _ _ _ r h => by simp [tallystickref16_Parts.l0] at h
  | k + 1 => by
    have ih0 := tallystickref16_Parts.mono_l k
    · intro y0 y1 y2
      unfold tallystickref16_Parts.l0
      repeat' first
      | (with_reducible exact ih0 _ _ _)
      | (with_reducible exact tallystickref14_SamePart.mono _ _ _ _ _ _ _ _ _ _ _ _ _)
      | (with_reducible exact LeO.refl _)
      | (with_reducible exact LeO.none _)
      | (with_reducible refine LeO.ite ?_ ?_)
      | (with_reducible refine LeO.bind ?_ (fun _ => ?_))
      | exact ih0 _ _ _
      | exact tallystickref14_SamePart.mono _ _ _ _ _ _ _ _ _ _ _ _ _
      | exact LeO.none _
      | refine LeO.ite ?_ ?_
      | refine LeO.bind ?_ (fun _ => ?_)
theorem tallystickref16_Parts.mono : ∀ a0 a1 k, LeO (tallystickref16_Parts.f k a0 a1) (tallystickref16_Parts.f (k + 1) a0 a1) := by
  intro a0 a1 k
  have ih0 := tallystickref16_Parts.mono_l k
  unfold tallystickref16_Parts.f
  repeat' first
      | (with_reducible exact ih0 _ _ _)
      | (with_reducible exact tallystickref14_SamePart.mono _ _ _ _ _ _ _ _ _ _ _ _ _)
      | (with_reducible exact LeO.refl _)
      | (with_reducible exact LeO.none _)
      | (with_reducible refine LeO.ite ?_ ?_)
      | (with_reducible refine LeO.bind ?_ (fun _ => ?_))
      | exact ih0 _ _ _
      | exact tallystickref14_SamePart.mono _ _ _ _ _ _ _ _ _ _ _ _ _
      | exact LeO.none _
      | refine LeO.ite ?_ ?_
      | refine LeO.bind ?_ (fun _ => ?_)
def tallystickref16_Parts.T6 : Bool × List (List Nat × List Nat) := (true, [([], []), ([], []), ([0, 1], [0, 1]), ([2], [2]), ([], []), ([], []), ([4, 5], [4, 5]), ([6], [6]), ([3, 7], [3, 7]), ([8, 8, 0, 1, 2, 3, 4, 5, 6, 7, 8], [8])])
def tallystickref16_Parts.B6 : List Nat := [0, 0, 3, 7, 0, 0, 48, 112, 255, 511]
theorem tallystickref16_Parts.tab6 : rtab .any (opsOf Tryd.f8 6) = tallystickref16_Parts.T6 := by kernel_rfl
theorem tallystickref16_Parts.bits6 : waitsOk tallystickref16_Parts.T6.2 tallystickref16_Parts.B6 = true := by kernel_rfl
set_option maxHeartbeats 8000000 in
set_option maxRecDepth 100000 in
theorem tallystickref16_Parts.calls (k : Nat) (A0 : Option Addr) (c0 : Nat) (l0 : List (S45)) (A1 : Option Addr) (c1 : Nat) (l1 : List (S45)) (r : Bool) (w : World) (hr0 : Kd.C k45 w A0 l0.length l0) (hc0 : l0.length ≤ c0) (hr1 : Kd.C k45 w A1 l1.length l1) (hc1 : l1.length ≤ c1) (h : tallystickref16_Parts.f k l0 l1 = some r) :
    Calls Tryd.prog 8 #[.slice A0 l0.length c0, .slice A1 l1.length c1] w fun e w' => e = .returned (.bool r) ∧ Below w.heap.size w w' := by
  have hu45 := Tryd.underlying45
  have HR0 := Aside0.mk hr0
  have HC0 := Aside0.mk hc0
  clear hr0 hc0
  have HR1 := Aside0.mk hr1
  have HC1 := Aside0.mk hc1
  clear hr1 hc1
  have HB := Aside0.mk (Below.refl w.heap.size w)
  have H : (if (l0.length : Int) = (l1.length : Int) then (tallystickref16_Parts.l0 k l0 l1 0) else (some false)) = some r := h
  clear h
  by_cases c3 : (l0.length : Int) = (l1.length : Int)
  · rw [if_pos c3] at H
    have c3b0 : ((l0.length : Int) == (l1.length : Int)) = true := beq_iff_eq.mpr c3
    have c3b1 : ((l0.length : Int) != (l1.length : Int)) = false := bne_eq_false_iff_eq.mpr c3
    have c3b2 : (l0.length == l1.length) = true := by first | simpa using c3 | (simp at c3 ⊢; omega)
    clear c3
    have H' := Aside0.mk H
    clear H
    go_enter Tryd.func8, Tryd.ntmps8
    go_wp2
    go_loopg [5] k (fun kq v5 w' => ∃ (x5_1 : Int), v5 = .int .i64 x5_1 ∧ Aside0 (tallystickref16_Parts.l0 kq l0 l1 x5_1 = some r) ∧ Aside0 (kq ≤ k) ∧ Aside0 (Below w.heap.size w w'))
    case atStart => exact ⟨(0), (by first | rfl | (simp; done) | (simp [*]; done)), H', ⟨Nat.le_refl _⟩, ⟨by repeat (first | (with_reducible first | exact HB.out | apply below_alloc | apply pw_below_drewN | apply below_drew1) | exact HB.out)⟩⟩
    case round =>
      clear H'
      try clear c1
      try clear p2
      try clear c3
      try clear c3b0
      try clear c3b1
      try clear c3b2
      obtain ⟨x5_1, rfl, HA, HK1, HB⟩ := hrel
      cases gk with
      | zero => exact absurd HA.out (by simp [tallystickref16_Parts.l0])
      | succ k1 =>
        have H := HA.out
        clear HA
        simp only [tallystickref16_Parts.l0] at H
        by_cases c4 : x5_1 < (l0.length : Int)
        · rw [if_pos c4] at H
          have c4b0 : decide (x5_1 < (l0.length : Int)) = true := decide_eq_true c4
          clear c4
          by_cases c5 : 0 ≤ x5_1
          · rw [if_pos c5] at H
            have c5b0 : decide (0 ≤ x5_1) = true := decide_eq_true c5
            clear c5
            by_cases c6 : x5_1 < (l1.length : Int)
            · rw [if_pos c6] at H
              have c6b0 : decide (x5_1 < (l1.length : Int)) = true := decide_eq_true c6
              clear c6
              replace H := Option.bind_eq_some_iff.mp H
              obtain ⟨t135, A70, H⟩ := H
              replace H : (if t135 = true then (tallystickref16_Parts.l0 k1 l0 l1 (wrap64 (x5_1 + 1))) else (some false)) = some r := H
              have A7 := Aside0.mk A70
              clear A70
              by_cases c8 : t135 = true
              · subst c8
                have H1 : (tallystickref16_Parts.l0 k1 l0 l1 (wrap64 (x5_1 + 1))) = some r := by rw [if_pos rfl] at H; exact H
                clear H
                have H := H1
                clear H1
                have H' := Aside0.mk H
                clear H
                try go_wp2
                have n0_ := Aside0.mk (below_drew1 HB.out)
                clear HB
                have HB := n0_
                clear n0_
                have p133 : 0 ≤ (x5_1 : Int) := of_decide_eq_true (by first | (with_reducible assumption) | assumption)
                have q133 : x5_1 < (l0.length : Int) := of_decide_eq_true (by first | (with_reducible assumption) | assumption)
                obtain ⟨ad133, A133_2, c133_2, A133_3, c133_3, A133_4, c133_4, e133, hx133_0, hx133_1, hx133_2, hx133_3, hx133_4, hx133_5, hl133_2, hi133_2, hl133_3, hi133_3, hl133_4, hi133_4⟩ := at_T45 HR0.out x5_1 p133 q133
                have hw133_5 := hx133_5
                have hw133_4 := hx133_4
                have hw133_3 := hx133_3
                have hw133_2 := hx133_2
                have hw133_1 := hx133_1
                have hw133_0 := hx133_0
                cases e133
                replace hx133_0 := (HB.out.cell (World.block_lt_of_cell? w _ hx133_0)).trans hx133_0
                replace hx133_1 := (HB.out.cell (World.block_lt_of_cell? w _ hx133_1)).trans hx133_1
                replace hx133_2 := (HB.out.cell (World.block_lt_of_cell? w _ hx133_2)).trans hx133_2
                replace hx133_3 := (HB.out.cell (World.block_lt_of_cell? w _ hx133_3)).trans hx133_3
                replace hx133_4 := (HB.out.cell (World.block_lt_of_cell? w _ hx133_4)).trans hx133_4
                replace hx133_5 := (HB.out.cell (World.block_lt_of_cell? w _ hx133_5)).trans hx133_5
                have HR133_2 := Aside0.mk hi133_2
                have HC133_2 := Aside0.mk hl133_2
                clear hi133_2 hl133_2
                have HR133_3 := Aside0.mk hi133_3
                have HC133_3 := Aside0.mk hl133_3
                clear hi133_3 hl133_3
                have HR133_4 := Aside0.mk hi133_4
                have HC133_4 := Aside0.mk hl133_4
                clear hi133_4 hl133_4
                replace p133 := eq_true p133
                replace q133 := eq_true q133
                have p134 : 0 ≤ (x5_1 : Int) := of_decide_eq_true (by first | (with_reducible assumption) | assumption)
                have q134 : x5_1 < (l1.length : Int) := of_decide_eq_true (by first | (with_reducible assumption) | assumption)
                obtain ⟨ad134, A134_2, c134_2, A134_3, c134_3, A134_4, c134_4, e134, hx134_0, hx134_1, hx134_2, hx134_3, hx134_4, hx134_5, hl134_2, hi134_2, hl134_3, hi134_3, hl134_4, hi134_4⟩ := at_T45 HR1.out x5_1 p134 q134
                have hw134_5 := hx134_5
                have hw134_4 := hx134_4
                have hw134_3 := hx134_3
                have hw134_2 := hx134_2
                have hw134_1 := hx134_1
                have hw134_0 := hx134_0
                cases e134
                replace hx134_0 := (HB.out.cell (World.block_lt_of_cell? w _ hx134_0)).trans hx134_0
                replace hx134_1 := (HB.out.cell (World.block_lt_of_cell? w _ hx134_1)).trans hx134_1
                replace hx134_2 := (HB.out.cell (World.block_lt_of_cell? w _ hx134_2)).trans hx134_2
                replace hx134_3 := (HB.out.cell (World.block_lt_of_cell? w _ hx134_3)).trans hx134_3
                replace hx134_4 := (HB.out.cell (World.block_lt_of_cell? w _ hx134_4)).trans hx134_4
                replace hx134_5 := (HB.out.cell (World.block_lt_of_cell? w _ hx134_5)).trans hx134_5
                have HR134_2 := Aside0.mk hi134_2
                have HC134_2 := Aside0.mk hl134_2
                clear hi134_2 hl134_2
                have HR134_3 := Aside0.mk hi134_3
                have HC134_3 := Aside0.mk hl134_3
                clear hi134_3 hl134_3
                have HR134_4 := Aside0.mk hi134_4
                have HC134_4 := Aside0.mk hl134_4
                clear hi134_4 hl134_4
                replace p134 := eq_true p134
                replace q134 := eq_true q134
                refine start_ (n := 10) (S := fun w' => w'.cell? (ad133.add ((x5_1).toNat * 6)) = some (.int .i64 ((rd_T45 l0 x5_1).f0.f0)) ∧ w'.cell? ⟨(ad133.add ((x5_1).toNat * 6)).block, (ad133.add ((x5_1).toNat * 6)).off + 1, none⟩ = some (.int .i64 ((rd_T45 l0 x5_1).f0.f1)) ∧ w'.cell? ⟨(ad133.add ((x5_1).toNat * 6)).block, (ad133.add ((x5_1).toNat * 6)).off + 2, none⟩ = some (.slice A133_2 ((rd_T45 l0 x5_1).f1).length c133_2) ∧ w'.cell? ⟨(ad133.add ((x5_1).toNat * 6)).block, (ad133.add ((x5_1).toNat * 6)).off + 3, none⟩ = some (.slice A133_3 ((rd_T45 l0 x5_1).f2).length c133_3) ∧ w'.cell? ⟨(ad133.add ((x5_1).toNat * 6)).block, (ad133.add ((x5_1).toNat * 6)).off + 4, none⟩ = some (.slice A133_4 ((rd_T45 l0 x5_1).f3).length c133_4) ∧ w'.cell? ⟨(ad133.add ((x5_1).toNat * 6)).block, (ad133.add ((x5_1).toNat * 6)).off + 5, none⟩ = some (.bool ((rd_T45 l0 x5_1).f4)) ∧ w'.cell? (ad134.add ((x5_1).toNat * 6)) = some (.int .i64 ((rd_T45 l1 x5_1).f0.f0)) ∧ w'.cell? ⟨(ad134.add ((x5_1).toNat * 6)).block, (ad134.add ((x5_1).toNat * 6)).off + 1, none⟩ = some (.int .i64 ((rd_T45 l1 x5_1).f0.f1)) ∧ w'.cell? ⟨(ad134.add ((x5_1).toNat * 6)).block, (ad134.add ((x5_1).toNat * 6)).off + 2, none⟩ = some (.slice A134_2 ((rd_T45 l1 x5_1).f1).length c134_2) ∧ w'.cell? ⟨(ad134.add ((x5_1).toNat * 6)).block, (ad134.add ((x5_1).toNat * 6)).off + 3, none⟩ = some (.slice A134_3 ((rd_T45 l1 x5_1).f2).length c134_3) ∧ w'.cell? ⟨(ad134.add ((x5_1).toNat * 6)).block, (ad134.add ((x5_1).toNat * 6)).off + 4, none⟩ = some (.slice A134_4 ((rd_T45 l1 x5_1).f3).length c134_4) ∧ w'.cell? ⟨(ad134.add ((x5_1).toNat * 6)).block, (ad134.add ((x5_1).toNat * 6)).off + 5, none⟩ = some (.bool ((rd_T45 l1 x5_1).f4))) (ds := []) #[false, false, false, false, false, false, false, false, false, false] (by kernel_rfl) rfl rfl ⟨((HB.out.cell (World.block_lt_of_cell? w _ hw133_0)).trans hw133_0), ((HB.out.cell (World.block_lt_of_cell? w _ hw133_1)).trans hw133_1), ((HB.out.cell (World.block_lt_of_cell? w _ hw133_2)).trans hw133_2), ((HB.out.cell (World.block_lt_of_cell? w _ hw133_3)).trans hw133_3), ((HB.out.cell (World.block_lt_of_cell? w _ hw133_4)).trans hw133_4), ((HB.out.cell (World.block_lt_of_cell? w _ hw133_5)).trans hw133_5), ((HB.out.cell (World.block_lt_of_cell? w _ hw134_0)).trans hw134_0), ((HB.out.cell (World.block_lt_of_cell? w _ hw134_1)).trans hw134_1), ((HB.out.cell (World.block_lt_of_cell? w _ hw134_2)).trans hw134_2), ((HB.out.cell (World.block_lt_of_cell? w _ hw134_3)).trans hw134_3), ((HB.out.cell (World.block_lt_of_cell? w _ hw134_4)).trans hw134_4), ((HB.out.cell (World.block_lt_of_cell? w _ hw134_5)).trans hw134_5)⟩ (fun hHeld => ?_); refine with_tabW tallystickref16_Parts.tab6 tallystickref16_Parts.bits6 (fun HT_ HW_ => ?_)
                generalize wr.drew = w9 at HB HR133_2 HR133_3 HR133_4 HR134_2 HR134_3 HR134_4 hx133_0 hx133_1 hx133_2 hx133_3 hx133_4 hx133_5 hx134_0 hx134_1 hx134_2 hx134_3 hx134_4 hx134_5 hHeld ⊢
                refine pure_ (i := 0) (N := some 18) (v := ?_) (a' := ?_) #[true, false, false, false, false, false, false, false, false, false] rfl rfl (any_of HT_.out (by kernel_rfl)) (fun _ _ _ h => h) (Or.inl ⟨by rfl, ?_⟩) ?_ ?_
                rotate_left
                · intro w'
                  go_simp
                  with_reducible rfl
                rotate_left
                · simp only [Act.put, List.setIfInBounds_toArray, List.set_cons_zero, List.set_cons_succ, i64_w, i32_w]
                  rfl
                refine pure_ (i := 1) (N := some 19) (v := ?_) (a' := ?_) #[true, true, false, false, false, false, false, false, false, false] rfl rfl (any_of HT_.out (by kernel_rfl)) (fun _ _ _ h => h) (Or.inl ⟨by rfl, ?_⟩) ?_ ?_
                rotate_left
                · intro w'
                  go_simp
                  with_reducible rfl
                rotate_left
                · simp only [Act.put, List.setIfInBounds_toArray, List.set_cons_zero, List.set_cons_succ, i64_w, i32_w]
                  rfl
                refine pure_ (i := 2) (N := some 20) (v := ?_) (a' := ?_) #[true, true, true, false, false, false, false, false, false, false] rfl rfl (any_of HT_.out (by kernel_rfl)) (fun _ _ _ h => h) (Or.inl ⟨by rfl, ?_⟩) ?_ ?_
                rotate_left
                · intro w'
                  go_simp
                  with_reducible rfl
                rotate_left
                · simp only [Act.put, List.setIfInBounds_toArray, List.set_cons_zero, List.set_cons_succ, i64_w, i32_w]
                  rfl
                refine pure_ (i := 4) (N := some 22) (v := ?_) (a' := ?_) #[true, true, true, false, true, false, false, false, false, false] rfl rfl (any_of HT_.out (by kernel_rfl)) (fun _ _ _ h => h) (Or.inl ⟨by rfl, ?_⟩) ?_ ?_
                rotate_left
                · intro w'
                  go_simp
                  with_reducible rfl
                rotate_left
                · simp only [Act.put, List.setIfInBounds_toArray, List.set_cons_zero, List.set_cons_succ, i64_w, i32_w]
                  rfl
                refine pure_ (i := 5) (N := some 23) (v := ?_) (a' := ?_) #[true, true, true, false, true, true, false, false, false, false] rfl rfl (any_of HT_.out (by kernel_rfl)) (fun _ _ _ h => h) (Or.inl ⟨by rfl, ?_⟩) ?_ ?_
                rotate_left
                · intro w'
                  go_simp
                  with_reducible rfl
                rotate_left
                · simp only [Act.put, List.setIfInBounds_toArray, List.set_cons_zero, List.set_cons_succ, i64_w, i32_w]
                  rfl
                refine pure_ (i := 6) (N := some 24) (v := ?_) (a' := ?_) #[true, true, true, false, true, true, true, false, false, false] rfl rfl (any_of HT_.out (by kernel_rfl)) (fun _ _ _ h => h) (Or.inl ⟨by rfl, ?_⟩) ?_ ?_
                rotate_left
                · intro w'
                  go_simp
                  with_reducible rfl
                rotate_left
                · simp only [Act.put, List.setIfInBounds_toArray, List.set_cons_zero, List.set_cons_succ, i64_w, i32_w]
                  rfl
                refine take_ (i := 3) (N := some 21) (v := ?_) (a' := ?_) #[true, true, true, true, true, true, true, false, false, false] rfl rfl (take_ofW HT_.out HW_.out (by kernel_rfl)) (fun _ _ _ h => h) (Or.inl ⟨by rfl, ?_⟩) hHeld ?_ ?_
                rotate_left
                · rintro w' ⟨s0, s1, s2, s3, s4, s5, s6, s7, s8, s9, s10, s11⟩
                  go_simp
                  with_reducible rfl
                rotate_left
                · simp only [Act.put, List.setIfInBounds_toArray, List.set_cons_zero, List.set_cons_succ, i64_w, i32_w]
                  rfl
                refine take_ (i := 7) (N := some 25) (v := ?_) (a' := ?_) #[true, true, true, true, true, true, true, true, false, false] rfl rfl (take_ofW HT_.out HW_.out (by kernel_rfl)) (fun _ _ _ h => h) (Or.inl ⟨by rfl, ?_⟩) hHeld ?_ ?_
                rotate_left
                · rintro w' ⟨s0, s1, s2, s3, s4, s5, s6, s7, s8, s9, s10, s11⟩
                  go_simp
                  with_reducible rfl
                rotate_left
                · simp only [Act.put, List.setIfInBounds_toArray, List.set_cons_zero, List.set_cons_succ, i64_w, i32_w]
                  rfl
                refine one_ (i := 8) (N := some 26) #[true, true, true, true, true, true, true, true, true, false] rfl rfl (one_of HT_.out (by kernel_rfl)) (by decide) (fun K hK => ?_)
                refine goes_ Tryd.func14 (by kernel_rfl) rfl #[.agg #[.int .i64 ((rd_T45 l0 x5_1).f0.f0), .int .i64 ((rd_T45 l0 x5_1).f0.f1), .slice A133_2 ((rd_T45 l0 x5_1).f1).length c133_2, .slice A133_3 ((rd_T45 l0 x5_1).f2).length c133_3, .slice A133_4 ((rd_T45 l0 x5_1).f3).length c133_4, .bool ((rd_T45 l0 x5_1).f4)], .agg #[.int .i64 ((rd_T45 l1 x5_1).f0.f0), .int .i64 ((rd_T45 l1 x5_1).f0.f1), .slice A134_2 ((rd_T45 l1 x5_1).f1).length c134_2, .slice A134_3 ((rd_T45 l1 x5_1).f2).length c134_3, .slice A134_4 ((rd_T45 l1 x5_1).f3).length c134_4, .bool ((rd_T45 l1 x5_1).f4)]] (by rfl) rfl rfl (by (try simp only [List.map_toArray, List.map_cons, List.map_nil]); first | done | rfl | (simp only [List.length_drop, List.length_take]; rfl)) ?_
                with_reducible refine (tallystickref14_SamePart.calls k1 ((rd_T45 l0 x5_1).f0.f0) ((rd_T45 l0 x5_1).f0.f1) _ _ ((rd_T45 l0 x5_1).f1) _ _ ((rd_T45 l0 x5_1).f2) _ _ ((rd_T45 l0 x5_1).f3) ((rd_T45 l0 x5_1).f4) ((rd_T45 l1 x5_1).f0.f0) ((rd_T45 l1 x5_1).f0.f1) _ _ ((rd_T45 l1 x5_1).f1) _ _ ((rd_T45 l1 x5_1).f2) _ _ ((rd_T45 l1 x5_1).f3) ((rd_T45 l1 x5_1).f4) true _ ?side1 ?side2 ?side3 ?side4 ?side5 ?side6 ?side7 ?side8 ?side9 ?side10 ?side11 ?side12 A7.out).mono ?_
                (case side1 => repeat (first | exact (Kd.C_below HR133_2.out HB.out) | (with_reducible refine Kd.C_alloc ?_ _) | (with_reducible refine Kd.C_drewN ?_ _) | (with_reducible refine Kd.C_drew ?_)))
                (case side2 => exact HC133_2.out)
                (case side3 => repeat (first | exact (Kd.C_below HR133_3.out HB.out) | (with_reducible refine Kd.C_alloc ?_ _) | (with_reducible refine Kd.C_drewN ?_ _) | (with_reducible refine Kd.C_drew ?_)))
                (case side4 => exact HC133_3.out)
                (case side5 => repeat (first | exact (Kd.C_below HR133_4.out HB.out) | (with_reducible refine Kd.C_alloc ?_ _) | (with_reducible refine Kd.C_drewN ?_ _) | (with_reducible refine Kd.C_drew ?_)))
                (case side6 => exact HC133_4.out)
                (case side7 => repeat (first | exact (Kd.C_below HR134_2.out HB.out) | (with_reducible refine Kd.C_alloc ?_ _) | (with_reducible refine Kd.C_drewN ?_ _) | (with_reducible refine Kd.C_drew ?_)))
                (case side8 => exact HC134_2.out)
                (case side9 => repeat (first | exact (Kd.C_below HR134_3.out HB.out) | (with_reducible refine Kd.C_alloc ?_ _) | (with_reducible refine Kd.C_drewN ?_ _) | (with_reducible refine Kd.C_drew ?_)))
                (case side10 => exact HC134_3.out)
                (case side11 => repeat (first | exact (Kd.C_below HR134_4.out HB.out) | (with_reducible refine Kd.C_alloc ?_ _) | (with_reducible refine Kd.C_drewN ?_ _) | (with_reducible refine Kd.C_drew ?_)))
                (case side12 => exact HC134_4.out)
                rintro e w10 ⟨rfl, hb⟩
                refine ⟨_, rfl, ?_⟩
                have n0_ := Aside0.mk (below_step (by repeat (first | (with_reducible first | exact HB.out | apply below_alloc | apply pw_below_drewN | apply below_drew1) | exact HB.out)) hb)
                clear HB
                have HB := n0_
                clear n0_
                (try clear hb)
                (try clear hb2)
                (try clear hk)
                (try clear hi)
                refine hK.out _ _ ⟨((HB.out.cell (World.block_lt_of_cell? w _ hw133_0)).trans hw133_0), ((HB.out.cell (World.block_lt_of_cell? w _ hw133_1)).trans hw133_1), ((HB.out.cell (World.block_lt_of_cell? w _ hw133_2)).trans hw133_2), ((HB.out.cell (World.block_lt_of_cell? w _ hw133_3)).trans hw133_3), ((HB.out.cell (World.block_lt_of_cell? w _ hw133_4)).trans hw133_4), ((HB.out.cell (World.block_lt_of_cell? w _ hw133_5)).trans hw133_5), ((HB.out.cell (World.block_lt_of_cell? w _ hw134_0)).trans hw134_0), ((HB.out.cell (World.block_lt_of_cell? w _ hw134_1)).trans hw134_1), ((HB.out.cell (World.block_lt_of_cell? w _ hw134_2)).trans hw134_2), ((HB.out.cell (World.block_lt_of_cell? w _ hw134_3)).trans hw134_3), ((HB.out.cell (World.block_lt_of_cell? w _ hw134_4)).trans hw134_4), ((HB.out.cell (World.block_lt_of_cell? w _ hw134_5)).trans hw134_5)⟩ (fun hHeld => ?_)
                clear hK K
                refine norm_ (a' := ?_) ?_ ?_
                rotate_left
                · show Act.put _ (some 26) _ = _
                  simp only [Act.put, List.setIfInBounds_toArray, List.set_cons_zero, List.set_cons_succ, i64_w, i32_w]
                  rfl
                refine pure_ (i := 9) (N := some 6) (v := ?_) (a' := ?_) #[true, true, true, true, true, true, true, true, true, true] rfl rfl (any_of HT_.out (by kernel_rfl)) (fun _ _ _ h => h) (Or.inl ⟨by rfl, ?_⟩) ?_ ?_
                rotate_left
                · intro w'
                  go_simp
                  with_reducible rfl
                rotate_left
                · simp only [Act.put, List.setIfInBounds_toArray, List.set_cons_zero, List.set_cons_succ, i64_w, i32_w]
                  rfl
                refine done_ (done_of HT_.out (by kernel_rfl)) ?_
                try go_wp2
                go_roundg k1
                case measure => have := HK1.out; omega
                case rel => exact ⟨(wrap64 (x5_1 + 1)), (by first | rfl | (simp; done) | (simp [*]; done)), H', ⟨by have := HK1.out; omega⟩, ⟨by repeat (first | (with_reducible first | exact HB.out | apply below_alloc | apply pw_below_drewN | apply below_drew1) | exact HB.out)⟩⟩
              · replace c8 := Bool.eq_false_iff.mpr c8
                subst c8
                have H1 : (some false) = some r := by rw [if_neg (show ¬ (false = true) by decide)] at H; exact H
                clear H
                have H := H1
                clear H1
                obtain rfl := Option.some.inj H
                try go_wp2
                have n0_ := Aside0.mk (below_drew1 HB.out)
                clear HB
                have HB := n0_
                clear n0_
                have p133 : 0 ≤ (x5_1 : Int) := of_decide_eq_true (by first | (with_reducible assumption) | assumption)
                have q133 : x5_1 < (l0.length : Int) := of_decide_eq_true (by first | (with_reducible assumption) | assumption)
                obtain ⟨ad133, A133_2, c133_2, A133_3, c133_3, A133_4, c133_4, e133, hx133_0, hx133_1, hx133_2, hx133_3, hx133_4, hx133_5, hl133_2, hi133_2, hl133_3, hi133_3, hl133_4, hi133_4⟩ := at_T45 HR0.out x5_1 p133 q133
                have hw133_5 := hx133_5
                have hw133_4 := hx133_4
                have hw133_3 := hx133_3
                have hw133_2 := hx133_2
                have hw133_1 := hx133_1
                have hw133_0 := hx133_0
                cases e133
                replace hx133_0 := (HB.out.cell (World.block_lt_of_cell? w _ hx133_0)).trans hx133_0
                replace hx133_1 := (HB.out.cell (World.block_lt_of_cell? w _ hx133_1)).trans hx133_1
                replace hx133_2 := (HB.out.cell (World.block_lt_of_cell? w _ hx133_2)).trans hx133_2
                replace hx133_3 := (HB.out.cell (World.block_lt_of_cell? w _ hx133_3)).trans hx133_3
                replace hx133_4 := (HB.out.cell (World.block_lt_of_cell? w _ hx133_4)).trans hx133_4
                replace hx133_5 := (HB.out.cell (World.block_lt_of_cell? w _ hx133_5)).trans hx133_5
                have HR133_2 := Aside0.mk hi133_2
                have HC133_2 := Aside0.mk hl133_2
                clear hi133_2 hl133_2
                have HR133_3 := Aside0.mk hi133_3
                have HC133_3 := Aside0.mk hl133_3
                clear hi133_3 hl133_3
                have HR133_4 := Aside0.mk hi133_4
                have HC133_4 := Aside0.mk hl133_4
                clear hi133_4 hl133_4
                replace p133 := eq_true p133
                replace q133 := eq_true q133
                have p134 : 0 ≤ (x5_1 : Int) := of_decide_eq_true (by first | (with_reducible assumption) | assumption)
                have q134 : x5_1 < (l1.length : Int) := of_decide_eq_true (by first | (with_reducible assumption) | assumption)
                obtain ⟨ad134, A134_2, c134_2, A134_3, c134_3, A134_4, c134_4, e134, hx134_0, hx134_1, hx134_2, hx134_3, hx134_4, hx134_5, hl134_2, hi134_2, hl134_3, hi134_3, hl134_4, hi134_4⟩ := at_T45 HR1.out x5_1 p134 q134
                have hw134_5 := hx134_5
                have hw134_4 := hx134_4
                have hw134_3 := hx134_3
                have hw134_2 := hx134_2
                have hw134_1 := hx134_1
                have hw134_0 := hx134_0
                cases e134
                replace hx134_0 := (HB.out.cell (World.block_lt_of_cell? w _ hx134_0)).trans hx134_0
                replace hx134_1 := (HB.out.cell (World.block_lt_of_cell? w _ hx134_1)).trans hx134_1
                replace hx134_2 := (HB.out.cell (World.block_lt_of_cell? w _ hx134_2)).trans hx134_2
                replace hx134_3 := (HB.out.cell (World.block_lt_of_cell? w _ hx134_3)).trans hx134_3
                replace hx134_4 := (HB.out.cell (World.block_lt_of_cell? w _ hx134_4)).trans hx134_4
                replace hx134_5 := (HB.out.cell (World.block_lt_of_cell? w _ hx134_5)).trans hx134_5
                have HR134_2 := Aside0.mk hi134_2
                have HC134_2 := Aside0.mk hl134_2
                clear hi134_2 hl134_2
                have HR134_3 := Aside0.mk hi134_3
                have HC134_3 := Aside0.mk hl134_3
                clear hi134_3 hl134_3
                have HR134_4 := Aside0.mk hi134_4
                have HC134_4 := Aside0.mk hl134_4
                clear hi134_4 hl134_4
                replace p134 := eq_true p134
                replace q134 := eq_true q134
                refine start_ (n := 10) (S := fun w' => w'.cell? (ad133.add ((x5_1).toNat * 6)) = some (.int .i64 ((rd_T45 l0 x5_1).f0.f0)) ∧ w'.cell? ⟨(ad133.add ((x5_1).toNat * 6)).block, (ad133.add ((x5_1).toNat * 6)).off + 1, none⟩ = some (.int .i64 ((rd_T45 l0 x5_1).f0.f1)) ∧ w'.cell? ⟨(ad133.add ((x5_1).toNat * 6)).block, (ad133.add ((x5_1).toNat * 6)).off + 2, none⟩ = some (.slice A133_2 ((rd_T45 l0 x5_1).f1).length c133_2) ∧ w'.cell? ⟨(ad133.add ((x5_1).toNat * 6)).block, (ad133.add ((x5_1).toNat * 6)).off + 3, none⟩ = some (.slice A133_3 ((rd_T45 l0 x5_1).f2).length c133_3) ∧ w'.cell? ⟨(ad133.add ((x5_1).toNat * 6)).block, (ad133.add ((x5_1).toNat * 6)).off + 4, none⟩ = some (.slice A133_4 ((rd_T45 l0 x5_1).f3).length c133_4) ∧ w'.cell? ⟨(ad133.add ((x5_1).toNat * 6)).block, (ad133.add ((x5_1).toNat * 6)).off + 5, none⟩ = some (.bool ((rd_T45 l0 x5_1).f4)) ∧ w'.cell? (ad134.add ((x5_1).toNat * 6)) = some (.int .i64 ((rd_T45 l1 x5_1).f0.f0)) ∧ w'.cell? ⟨(ad134.add ((x5_1).toNat * 6)).block, (ad134.add ((x5_1).toNat * 6)).off + 1, none⟩ = some (.int .i64 ((rd_T45 l1 x5_1).f0.f1)) ∧ w'.cell? ⟨(ad134.add ((x5_1).toNat * 6)).block, (ad134.add ((x5_1).toNat * 6)).off + 2, none⟩ = some (.slice A134_2 ((rd_T45 l1 x5_1).f1).length c134_2) ∧ w'.cell? ⟨(ad134.add ((x5_1).toNat * 6)).block, (ad134.add ((x5_1).toNat * 6)).off + 3, none⟩ = some (.slice A134_3 ((rd_T45 l1 x5_1).f2).length c134_3) ∧ w'.cell? ⟨(ad134.add ((x5_1).toNat * 6)).block, (ad134.add ((x5_1).toNat * 6)).off + 4, none⟩ = some (.slice A134_4 ((rd_T45 l1 x5_1).f3).length c134_4) ∧ w'.cell? ⟨(ad134.add ((x5_1).toNat * 6)).block, (ad134.add ((x5_1).toNat * 6)).off + 5, none⟩ = some (.bool ((rd_T45 l1 x5_1).f4))) (ds := []) #[false, false, false, false, false, false, false, false, false, false] (by kernel_rfl) rfl rfl ⟨((HB.out.cell (World.block_lt_of_cell? w _ hw133_0)).trans hw133_0), ((HB.out.cell (World.block_lt_of_cell? w _ hw133_1)).trans hw133_1), ((HB.out.cell (World.block_lt_of_cell? w _ hw133_2)).trans hw133_2), ((HB.out.cell (World.block_lt_of_cell? w _ hw133_3)).trans hw133_3), ((HB.out.cell (World.block_lt_of_cell? w _ hw133_4)).trans hw133_4), ((HB.out.cell (World.block_lt_of_cell? w _ hw133_5)).trans hw133_5), ((HB.out.cell (World.block_lt_of_cell? w _ hw134_0)).trans hw134_0), ((HB.out.cell (World.block_lt_of_cell? w _ hw134_1)).trans hw134_1), ((HB.out.cell (World.block_lt_of_cell? w _ hw134_2)).trans hw134_2), ((HB.out.cell (World.block_lt_of_cell? w _ hw134_3)).trans hw134_3), ((HB.out.cell (World.block_lt_of_cell? w _ hw134_4)).trans hw134_4), ((HB.out.cell (World.block_lt_of_cell? w _ hw134_5)).trans hw134_5)⟩ (fun hHeld => ?_); refine with_tabW tallystickref16_Parts.tab6 tallystickref16_Parts.bits6 (fun HT_ HW_ => ?_)
                generalize wr.drew = w11 at HB HR133_2 HR133_3 HR133_4 HR134_2 HR134_3 HR134_4 hx133_0 hx133_1 hx133_2 hx133_3 hx133_4 hx133_5 hx134_0 hx134_1 hx134_2 hx134_3 hx134_4 hx134_5 hHeld ⊢
                refine pure_ (i := 0) (N := some 18) (v := ?_) (a' := ?_) #[true, false, false, false, false, false, false, false, false, false] rfl rfl (any_of HT_.out (by kernel_rfl)) (fun _ _ _ h => h) (Or.inl ⟨by rfl, ?_⟩) ?_ ?_
                rotate_left
                · intro w'
                  go_simp
                  with_reducible rfl
                rotate_left
                · simp only [Act.put, List.setIfInBounds_toArray, List.set_cons_zero, List.set_cons_succ, i64_w, i32_w]
                  rfl
                refine pure_ (i := 1) (N := some 19) (v := ?_) (a' := ?_) #[true, true, false, false, false, false, false, false, false, false] rfl rfl (any_of HT_.out (by kernel_rfl)) (fun _ _ _ h => h) (Or.inl ⟨by rfl, ?_⟩) ?_ ?_
                rotate_left
                · intro w'
                  go_simp
                  with_reducible rfl
                rotate_left
                · simp only [Act.put, List.setIfInBounds_toArray, List.set_cons_zero, List.set_cons_succ, i64_w, i32_w]
                  rfl
                refine pure_ (i := 2) (N := some 20) (v := ?_) (a' := ?_) #[true, true, true, false, false, false, false, false, false, false] rfl rfl (any_of HT_.out (by kernel_rfl)) (fun _ _ _ h => h) (Or.inl ⟨by rfl, ?_⟩) ?_ ?_
                rotate_left
                · intro w'
                  go_simp
                  with_reducible rfl
                rotate_left
                · simp only [Act.put, List.setIfInBounds_toArray, List.set_cons_zero, List.set_cons_succ, i64_w, i32_w]
                  rfl
                refine pure_ (i := 4) (N := some 22) (v := ?_) (a' := ?_) #[true, true, true, false, true, false, false, false, false, false] rfl rfl (any_of HT_.out (by kernel_rfl)) (fun _ _ _ h => h) (Or.inl ⟨by rfl, ?_⟩) ?_ ?_
                rotate_left
                · intro w'
                  go_simp
                  with_reducible rfl
                rotate_left
                · simp only [Act.put, List.setIfInBounds_toArray, List.set_cons_zero, List.set_cons_succ, i64_w, i32_w]
                  rfl
                refine pure_ (i := 5) (N := some 23) (v := ?_) (a' := ?_) #[true, true, true, false, true, true, false, false, false, false] rfl rfl (any_of HT_.out (by kernel_rfl)) (fun _ _ _ h => h) (Or.inl ⟨by rfl, ?_⟩) ?_ ?_
                rotate_left
                · intro w'
                  go_simp
                  with_reducible rfl
                rotate_left
                · simp only [Act.put, List.setIfInBounds_toArray, List.set_cons_zero, List.set_cons_succ, i64_w, i32_w]
                  rfl
                refine pure_ (i := 6) (N := some 24) (v := ?_) (a' := ?_) #[true, true, true, false, true, true, true, false, false, false] rfl rfl (any_of HT_.out (by kernel_rfl)) (fun _ _ _ h => h) (Or.inl ⟨by rfl, ?_⟩) ?_ ?_
                rotate_left
                · intro w'
                  go_simp
                  with_reducible rfl
                rotate_left
                · simp only [Act.put, List.setIfInBounds_toArray, List.set_cons_zero, List.set_cons_succ, i64_w, i32_w]
                  rfl
                refine take_ (i := 3) (N := some 21) (v := ?_) (a' := ?_) #[true, true, true, true, true, true, true, false, false, false] rfl rfl (take_ofW HT_.out HW_.out (by kernel_rfl)) (fun _ _ _ h => h) (Or.inl ⟨by rfl, ?_⟩) hHeld ?_ ?_
                rotate_left
                · rintro w' ⟨s0, s1, s2, s3, s4, s5, s6, s7, s8, s9, s10, s11⟩
                  go_simp
                  with_reducible rfl
                rotate_left
                · simp only [Act.put, List.setIfInBounds_toArray, List.set_cons_zero, List.set_cons_succ, i64_w, i32_w]
                  rfl
                refine take_ (i := 7) (N := some 25) (v := ?_) (a' := ?_) #[true, true, true, true, true, true, true, true, false, false] rfl rfl (take_ofW HT_.out HW_.out (by kernel_rfl)) (fun _ _ _ h => h) (Or.inl ⟨by rfl, ?_⟩) hHeld ?_ ?_
                rotate_left
                · rintro w' ⟨s0, s1, s2, s3, s4, s5, s6, s7, s8, s9, s10, s11⟩
                  go_simp
                  with_reducible rfl
                rotate_left
                · simp only [Act.put, List.setIfInBounds_toArray, List.set_cons_zero, List.set_cons_succ, i64_w, i32_w]
                  rfl
                refine one_ (i := 8) (N := some 26) #[true, true, true, true, true, true, true, true, true, false] rfl rfl (one_of HT_.out (by kernel_rfl)) (by decide) (fun K hK => ?_)
                refine goes_ Tryd.func14 (by kernel_rfl) rfl #[.agg #[.int .i64 ((rd_T45 l0 x5_1).f0.f0), .int .i64 ((rd_T45 l0 x5_1).f0.f1), .slice A133_2 ((rd_T45 l0 x5_1).f1).length c133_2, .slice A133_3 ((rd_T45 l0 x5_1).f2).length c133_3, .slice A133_4 ((rd_T45 l0 x5_1).f3).length c133_4, .bool ((rd_T45 l0 x5_1).f4)], .agg #[.int .i64 ((rd_T45 l1 x5_1).f0.f0), .int .i64 ((rd_T45 l1 x5_1).f0.f1), .slice A134_2 ((rd_T45 l1 x5_1).f1).length c134_2, .slice A134_3 ((rd_T45 l1 x5_1).f2).length c134_3, .slice A134_4 ((rd_T45 l1 x5_1).f3).length c134_4, .bool ((rd_T45 l1 x5_1).f4)]] (by rfl) rfl rfl (by (try simp only [List.map_toArray, List.map_cons, List.map_nil]); first | done | rfl | (simp only [List.length_drop, List.length_take]; rfl)) ?_
                with_reducible refine (tallystickref14_SamePart.calls k1 ((rd_T45 l0 x5_1).f0.f0) ((rd_T45 l0 x5_1).f0.f1) _ _ ((rd_T45 l0 x5_1).f1) _ _ ((rd_T45 l0 x5_1).f2) _ _ ((rd_T45 l0 x5_1).f3) ((rd_T45 l0 x5_1).f4) ((rd_T45 l1 x5_1).f0.f0) ((rd_T45 l1 x5_1).f0.f1) _ _ ((rd_T45 l1 x5_1).f1) _ _ ((rd_T45 l1 x5_1).f2) _ _ ((rd_T45 l1 x5_1).f3) ((rd_T45 l1 x5_1).f4) false _ ?side1 ?side2 ?side3 ?side4 ?side5 ?side6 ?side7 ?side8 ?side9 ?side10 ?side11 ?side12 A7.out).mono ?_
                (case side1 => repeat (first | exact (Kd.C_below HR133_2.out HB.out) | (with_reducible refine Kd.C_alloc ?_ _) | (with_reducible refine Kd.C_drewN ?_ _) | (with_reducible refine Kd.C_drew ?_)))
                (case side2 => exact HC133_2.out)
                (case side3 => repeat (first | exact (Kd.C_below HR133_3.out HB.out) | (with_reducible refine Kd.C_alloc ?_ _) | (with_reducible refine Kd.C_drewN ?_ _) | (with_reducible refine Kd.C_drew ?_)))
                (case side4 => exact HC133_3.out)
                (case side5 => repeat (first | exact (Kd.C_below HR133_4.out HB.out) | (with_reducible refine Kd.C_alloc ?_ _) | (with_reducible refine Kd.C_drewN ?_ _) | (with_reducible refine Kd.C_drew ?_)))
                (case side6 => exact HC133_4.out)
                (case side7 => repeat (first | exact (Kd.C_below HR134_2.out HB.out) | (with_reducible refine Kd.C_alloc ?_ _) | (with_reducible refine Kd.C_drewN ?_ _) | (with_reducible refine Kd.C_drew ?_)))
                (case side8 => exact HC134_2.out)
                (case side9 => repeat (first | exact (Kd.C_below HR134_3.out HB.out) | (with_reducible refine Kd.C_alloc ?_ _) | (with_reducible refine Kd.C_drewN ?_ _) | (with_reducible refine Kd.C_drew ?_)))
                (case side10 => exact HC134_3.out)
                (case side11 => repeat (first | exact (Kd.C_below HR134_4.out HB.out) | (with_reducible refine Kd.C_alloc ?_ _) | (with_reducible refine Kd.C_drewN ?_ _) | (with_reducible refine Kd.C_drew ?_)))
                (case side12 => exact HC134_4.out)
                rintro e w12 ⟨rfl, hb⟩
                refine ⟨_, rfl, ?_⟩
                have n0_ := Aside0.mk (below_step (by repeat (first | (with_reducible first | exact HB.out | apply below_alloc | apply pw_below_drewN | apply below_drew1) | exact HB.out)) hb)
                clear HB
                have HB := n0_
                clear n0_
                (try clear hb)
                (try clear hb2)
                (try clear hk)
                (try clear hi)
                refine hK.out _ _ ⟨((HB.out.cell (World.block_lt_of_cell? w _ hw133_0)).trans hw133_0), ((HB.out.cell (World.block_lt_of_cell? w _ hw133_1)).trans hw133_1), ((HB.out.cell (World.block_lt_of_cell? w _ hw133_2)).trans hw133_2), ((HB.out.cell (World.block_lt_of_cell? w _ hw133_3)).trans hw133_3), ((HB.out.cell (World.block_lt_of_cell? w _ hw133_4)).trans hw133_4), ((HB.out.cell (World.block_lt_of_cell? w _ hw133_5)).trans hw133_5), ((HB.out.cell (World.block_lt_of_cell? w _ hw134_0)).trans hw134_0), ((HB.out.cell (World.block_lt_of_cell? w _ hw134_1)).trans hw134_1), ((HB.out.cell (World.block_lt_of_cell? w _ hw134_2)).trans hw134_2), ((HB.out.cell (World.block_lt_of_cell? w _ hw134_3)).trans hw134_3), ((HB.out.cell (World.block_lt_of_cell? w _ hw134_4)).trans hw134_4), ((HB.out.cell (World.block_lt_of_cell? w _ hw134_5)).trans hw134_5)⟩ (fun hHeld => ?_)
                clear hK K
                refine norm_ (a' := ?_) ?_ ?_
                rotate_left
                · show Act.put _ (some 26) _ = _
                  simp only [Act.put, List.setIfInBounds_toArray, List.set_cons_zero, List.set_cons_succ, i64_w, i32_w]
                  rfl
                refine pure_ (i := 9) (N := some 6) (v := ?_) (a' := ?_) #[true, true, true, true, true, true, true, true, true, true] rfl rfl (any_of HT_.out (by kernel_rfl)) (fun _ _ _ h => h) (Or.inl ⟨by rfl, ?_⟩) ?_ ?_
                rotate_left
                · intro w'
                  go_simp
                  with_reducible rfl
                rotate_left
                · simp only [Act.put, List.setIfInBounds_toArray, List.set_cons_zero, List.set_cons_succ, i64_w, i32_w]
                  rfl
                refine done_ (done_of HT_.out (by kernel_rfl)) ?_
                try go_wp2
                go_ret
                exact ⟨by first | rfl | (simp [errW_none, errW_some] <;> rfl) | (simp [*, errW_none, errW_some] <;> rfl), by repeat (first | (with_reducible first | exact HB.out | apply below_alloc | apply pw_below_drewN | apply below_drew1) | exact HB.out)⟩
            · rw [if_neg c6] at H
              exact absurd H (by simp)
          · rw [if_neg c5] at H
            exact absurd H (by simp)
        · rw [if_neg c4] at H
          have c4b0 : decide (x5_1 < (l0.length : Int)) = false := decide_eq_false c4
          clear c4
          obtain rfl := Option.some.inj H
          go_wp2
          go_ret
          exact ⟨by first | rfl | (simp [errW_none, errW_some] <;> rfl) | (simp [*, errW_none, errW_some] <;> rfl), by repeat (first | (with_reducible first | exact HB.out | apply below_alloc | apply pw_below_drewN | apply below_drew1) | exact HB.out)⟩
  · rw [if_neg c3] at H
    have c3b0 : ((l0.length : Int) == (l1.length : Int)) = false := beq_eq_false_iff_ne.mpr c3
    have c3b1 : ((l0.length : Int) != (l1.length : Int)) = true := bne_iff_ne.mpr c3
    have c3b2 : (l0.length == l1.length) = false := by first | simpa using c3 | (simp at c3 ⊢; omega)
    obtain rfl := Option.some.inj H
    go_enter Tryd.func8, Tryd.ntmps8
    go_wp2
    go_ret
    exact ⟨by first | rfl | (simp [errW_none, errW_some] <;> rfl) | (simp [*, errW_none, errW_some] <;> rfl), by repeat (first | (with_reducible first | exact HB.out | apply below_alloc | apply pw_below_drewN | apply below_drew1) | exact HB.out)⟩

end Go.Proofs.YtbpobnlkfpjijaaDoorR.Pr
end
-- Pr2
section
namespace Go.Proofs.YtbpobnlkfpjijaaDoorR.Pr
open Go.RowKit Go.Proofs.YtbpobnlkfpjijaaDoorRW.PrintWords Go.Proofs.YtbpobnlkfpjijaaDoorRW.PrintLast Go.Proofs.YtbpobnlkfpjijaaDoorRW.PrintMore
attribute [local go_sem] max2_int min2_int max_two min_two max_three min_three max_four min_four   -- for this text's walks alone
set_option linter.unusedVariables false
set_option linter.unusedSimpArgs false

attribute [local go_sem] Go.Proofs.Aid.cell_set_row
theorem eqA31 (d : Nat) (w : World) (x0 y0 : Int) (x1 y1 : Int) (x2 y2 : Int) :
    (Op.equalIn (d + 2) 31 (.agg #[.int .i64 x0, .int .i64 x1, .int .i64 x2]) (.agg #[.int .i64 y0, .int .i64 y1, .int .i64 y2])).run Tryd.prog w = .ok (x0 == y0 && (x1 == y1 && (x2 == y2))) w := by
  refine eqA_of Tryd.underlying31 (by kernel_rfl) ?_
  refine eqf_cons (by rfl) (by go_simp; rfl) (by go_simp; rfl) (by go_simp) ?_
  refine eqf_cons (by rfl) (by go_simp; rfl) (by go_simp; rfl) (by go_simp) ?_
  exact eqf_last (by rfl) (by go_simp; rfl) (by go_simp; rfl) (by go_simp)
end Go.Proofs.YtbpobnlkfpjijaaDoorR.Pr
end
-- Pr55
section
namespace Go.Proofs.YtbpobnlkfpjijaaDoorR.Pr
open Go.RowKit Go.Proofs.YtbpobnlkfpjijaaDoorRW.PrintWords Go.Proofs.YtbpobnlkfpjijaaDoorRW.PrintLast Go.Proofs.YtbpobnlkfpjijaaDoorRW.PrintMore
attribute [local go_sem] max2_int min2_int max_two min_two max_three min_three max_four min_four   -- for this text's walks alone
set_option linter.unusedVariables false
set_option linter.unusedSimpArgs false

attribute [local go_sem] Go.Proofs.Aid.cell_set_row
attribute [local go_sem high] eqA31
theorem cf9_ {W : World} {g : Nat} {t : TypeId} {x0 x1 x2 x3 x4 x5 x6 x7 x8 : Value} (h : AsC (W.heap[g]? = some (.cells #[x0, x1, x2, x3, x4, x5, x6, x7, x8] t (0, 0)))) : W.cell? ⟨g, 0, none⟩ = some x0 ∧ W.cell? ⟨g, 1, none⟩ = some x1 ∧ W.cell? ⟨g, 2, none⟩ = some x2 ∧ W.cell? ⟨g, 3, none⟩ = some x3 ∧ W.cell? ⟨g, 4, none⟩ = some x4 ∧ W.cell? ⟨g, 5, none⟩ = some x5 ∧ W.cell? ⟨g, 6, none⟩ = some x6 ∧ W.cell? ⟨g, 7, none⟩ = some x7 ∧ W.cell? ⟨g, 8, none⟩ = some x8 ∧ W.frozen? ⟨g, 0, none⟩ = false ∧ W.frozen? ⟨g, 1, none⟩ = false ∧ W.frozen? ⟨g, 2, none⟩ = false ∧ W.frozen? ⟨g, 3, none⟩ = false ∧ W.frozen? ⟨g, 4, none⟩ = false ∧ W.frozen? ⟨g, 5, none⟩ = false ∧ W.frozen? ⟨g, 6, none⟩ = false ∧ W.frozen? ⟨g, 7, none⟩ = false ∧ W.frozen? ⟨g, 8, none⟩ = false := ⟨(blk_cell h.out 0).trans rfl, (blk_cell h.out 1).trans rfl, (blk_cell h.out 2).trans rfl, (blk_cell h.out 3).trans rfl, (blk_cell h.out 4).trans rfl, (blk_cell h.out 5).trans rfl, (blk_cell h.out 6).trans rfl, (blk_cell h.out 7).trans rfl, (blk_cell h.out 8).trans rfl, blk_frozen h.out 0, blk_frozen h.out 1, blk_frozen h.out 2, blk_frozen h.out 3, blk_frozen h.out 4, blk_frozen h.out 5, blk_frozen h.out 6, blk_frozen h.out 7, blk_frozen h.out 8⟩
def crc_Of.f (a0 : ByteArray) (a1_0 : Int) (a1_1 : Int) (a1_2 : Int) : Option (Int × Int × List Int × List Int × List Int × Bool × Int) := (crc_Take.f a0).bind fun bt157 => (if bt157.2.2.2.2.2.2.2.2.2 = 0 then (if (!(bt157.1 == a1_0) || (!(bt157.2.1 == a1_1) || (!(bt157.2.2.1 == a1_2)))) = true then (some (0, 0, ([] : List Int), ([] : List Int), ([] : List Int), false, 11)) else (some (bt157.2.2.2.1, bt157.2.2.2.2.1, bt157.2.2.2.2.2.1, bt157.2.2.2.2.2.2.1, bt157.2.2.2.2.2.2.2.1, bt157.2.2.2.2.2.2.2.2.1, 0))) else (some (0, 0, ([] : List Int), ([] : List Int), ([] : List Int), false, bt157.2.2.2.2.2.2.2.2.2)))
set_option maxHeartbeats 8000000 in
set_option maxRecDepth 100000 in
theorem crc_Of.calls (a0 : ByteArray) (a1_0 : Int) (a1_1 : Int) (a1_2 : Int) (r1 : Int) (r2 : Int) (r3 : List Int) (r4 : List Int) (r5 : List Int) (r6 : Bool) (r7 : Int) (w : World) (hT_w : TbC w) (h : crc_Of.f a0 a1_0 a1_1 a1_2 = some (r1, r2, r3, r4, r5, r6, r7)) :
  Calls Tryd.prog 17 #[.string a0, .agg #[.int .i64 a1_0, .int .i64 a1_1, .int .i64 a1_2]] w fun e w' => ∃ v2_ v3_ v4_ : Value, e = .returned (.tuple #[.agg #[.int .i64 r1, .int .i64 r2, v2_, v3_, v4_, .bool r6], .int .i64 r7]) ∧ Kd.V (Kd.int .u64) 79 w' w.heap.size (fun k_ => (w.heap.size ≤ k_)) v2_ r3 ∧ Kd.V (Kd.int .u64) 79 w' w.heap.size (fun k_ => (w.heap.size ≤ k_)) v3_ r4 ∧ Kd.V (Kd.int .u64) 79 w' w.heap.size (fun k_ => (w.heap.size ≤ k_)) v4_ r5 ∧ Below w.heap.size w w' := by
 haveI := hT_w
 have hu31 := Tryd.underlying31
 have hu45 := Tryd.underlying45
 have hu63 := Tryd.underlying63
 have HB := A_ (Below.refl w.heap.size w)
 have H : ((crc_Take.f a0).bind fun bt157 => (if bt157.2.2.2.2.2.2.2.2.2 = 0 then (if (!(bt157.1 == a1_0) || (!(bt157.2.1 == a1_1) || (!(bt157.2.2.1 == a1_2)))) = true then (some (0, 0, ([] : List Int), ([] : List Int), ([] : List Int), false, 11)) else (some (bt157.2.2.2.1, bt157.2.2.2.2.1, bt157.2.2.2.2.2.1, bt157.2.2.2.2.2.2.1, bt157.2.2.2.2.2.2.2.1, bt157.2.2.2.2.2.2.2.2.1, 0))) else (some (0, 0, ([] : List Int), ([] : List Int), ([] : List Int), false, bt157.2.2.2.2.2.2.2.2.2)))) = some (r1, r2, r3, r4, r5, r6, r7) := h
 clear h
 replace H := Option.bind_eq_some_iff.mp H
 obtain ⟨⟨t157, t158, t159, t160, t161, t162, t165, t168, t171, t172⟩, A30, H⟩ := H
 replace H : (if t172 = 0 then (if (!(t157 == a1_0) || (!(t158 == a1_1) || (!(t159 == a1_2)))) = true then (some (0, 0, ([] : List Int), ([] : List Int), ([] : List Int), false, 11)) else (some (t160, t161, t162, t165, t168, t171, 0))) else (some (0, 0, ([] : List Int), ([] : List Int), ([] : List Int), false, t172))) = some (r1, r2, r3, r4, r5, r6, r7) := H
 have A3 := A_ A30; clear A30
 by_cases c4 : t172 = 0
 ·rw [if_pos c4] at H
  have c4b0 : (t172 == 0) = true := beq_iff_eq.mpr c4
  have c4b1 : (t172 != 0) = false := bne_eq_false_iff_eq.mpr c4
  clear c4
  by_cases c5 : (!(t157 == a1_0) || (!(t158 == a1_1) || (!(t159 == a1_2)))) = true
  ·rw [if_pos c5] at H
   have c5b0 : (!(t157 == a1_0) || (!(t158 == a1_1) || (!(t159 == a1_2)))) = true := c5
   clear c5
   simp only [Option.some.injEq, Prod.mk.injEq] at H
   obtain ⟨rfl, rfl, rfl, rfl, rfl, rfl, rfl⟩ := H
   go_enter Tryd.func17, Tryd.ntmps17
   go_wp2_with (first | ((with_reducible refine gate_dst (N := 3) rfl ?_); refine box_event ?hg (N := 3) ?hd (cs := #[.int .i64 a1_0, .int .i64 a1_1, .int .i64 a1_2]) (t := 31) ?hr ?_; (case hd => rfl); (case hg => rfl); (case hr => first | (go_simp; done) | (go_simp; rfl)); intro gb155 hg w6 hbox hb; have BK155 := A_ hbox; have GW155 := A_ ((by rw [hg]; exact (below_size (hB_ w)) : w.heap.size ≤ gb155)); have GE155 := A_ ((by rw [hg]; exact (below_size (hB_ w)) : w.heap.size ≤ gb155)); replace HB := A_ (below_step (hB_ w) hb); clear hb hbox hg) | ((with_reducible refine gate_dst (N := 4) rfl ?_); refine box_event ?hg (N := 4) ?hd (cs := #[.int .i64 0, .int .i64 0, .slice none 0 0, .slice none 0 0, .slice none 0 0, .bool false]) (t := 45) ?hr ?_; (case hd => rfl); (case hg => rfl); (case hr => first | (go_simp; done) | (go_simp; rfl)); intro gb156 hg w7 hbox hb; have BK156 := A_ hbox; have GW156 := A_ ((by rw [hg]; exact (below_size (hB_ w)) : w.heap.size ≤ gb156)); have GE156 := A_ ((by rw [hg]; exact (below_size (hB_ w)) : w.heap.size ≤ gb156)); replace HB := A_ (below_step (hB_ w) hb); have NB155_156 := A_ ((by rw [hg]; exact Nat.ne_of_lt (blk_lt (g := gb155) (b_ BK155)) : gb155 ≠ gb156)); have NB156_155 := A_ ((by rw [hg]; exact Nat.ne_of_gt (blk_lt (g := gb155) (b_ BK155)) : gb156 ≠ gb155)); replace BK155 := A_ (blk_below (g := gb155) (b_ BK155) hb); clear hb hbox hg) | ((with_reducible refine gate_callee (f := 25) rfl ?_); refine goesL_ (some 10) rfl rfl Tryd.func25 (by kernel_rfl) rfl #[.string a0] rfl (by (try simp only [List.map_toArray, List.map_cons, List.map_nil]); first | done | rfl | (simp only [List.length_drop, List.length_take]; rfl)) ?_; (with_reducible refine (crc_Take.calls a0 t157 t158 t159 t160 t161 t162 t165 t168 t171 t172 _ (tbc_at w) A3.out).mono ?_); rintro e w8 ⟨v163, v166, v169, rfl, ho0, ho1, ho2, hb⟩; refine ⟨_, rfl, ?_⟩; have HO164 := A_ (Kd.V_lower (Kd.V_mono (ok' := fun k_ => (w.heap.size ≤ k_) ∧ k_ ≠ gb155 ∧ k_ ≠ gb156) ho0 (fun k_ hk_ => ⟨(Nat.le_trans (below_size (hB_ w)) hk_), (Kd.freshB (g := gb155) (b_ BK155) k_ hk_), (Kd.freshB (g := gb156) (b_ BK156) k_ hk_)⟩)) (below_size (hB_ w))); have HO167 := A_ (Kd.V_lower (Kd.V_mono (ok' := fun k_ => (w.heap.size ≤ k_) ∧ k_ ≠ gb155 ∧ k_ ≠ gb156) ho1 (fun k_ hk_ => ⟨(Nat.le_trans (below_size (hB_ w)) hk_), (Kd.freshB (g := gb155) (b_ BK155) k_ hk_), (Kd.freshB (g := gb156) (b_ BK156) k_ hk_)⟩)) (below_size (hB_ w))); have HO170 := A_ (Kd.V_lower (Kd.V_mono (ok' := fun k_ => (w.heap.size ≤ k_) ∧ k_ ≠ gb155 ∧ k_ ≠ gb156) ho2 (fun k_ hk_ => ⟨(Nat.le_trans (below_size (hB_ w)) hk_), (Kd.freshB (g := gb155) (b_ BK155) k_ hk_), (Kd.freshB (g := gb156) (b_ BK156) k_ hk_)⟩)) (below_size (hB_ w))); replace BK155 := A_ (blk_below (g := gb155) (b_ BK155) hb); replace BK156 := A_ (blk_below (g := gb156) (b_ BK156) hb); replace HB := A_ (below_step (hB_ w) hb); (try clear hb); (try clear hb2); (try clear hk); (try clear hi); (try clear ho0); (try clear ho1); (try clear ho2)) | ((with_reducible refine gate_dst (N := 6) rfl ?_); refine box_event ?hg (N := 6) ?hd (cs := #[.int .i64 0, .int .i64 0, .int .i64 0, .int .i64 0, .int .i64 0, .slice none 0 0, .slice none 0 0, .slice none 0 0, .bool false]) (t := 63) ?hr ?_; (case hd => rfl); (case hg => rfl); (case hr => first | (go_simp; done) | (go_simp; rfl)); intro gb173 hg w9 hbox hb; replace HO164 := A_ (Kd.V_below (Kd.V_elderB (v_ HO164) gb173 (Nat.le_of_eq hg.symm)) hb); replace HO167 := A_ (Kd.V_below (Kd.V_elderB (v_ HO167) gb173 (Nat.le_of_eq hg.symm)) hb); replace HO170 := A_ (Kd.V_below (Kd.V_elderB (v_ HO170) gb173 (Nat.le_of_eq hg.symm)) hb); have BK173 := A_ hbox; have GW173 := A_ ((by rw [hg]; exact (below_size (hB_ w)) : w.heap.size ≤ gb173)); have GE173 := A_ ((by rw [hg]; exact (below_size (hB_ w)) : w.heap.size ≤ gb173)); replace HB := A_ (below_step (hB_ w) hb); have NB155_173 := A_ ((by rw [hg]; exact Nat.ne_of_lt (blk_lt (g := gb155) (b_ BK155)) : gb155 ≠ gb173)); have NB173_155 := A_ ((by rw [hg]; exact Nat.ne_of_gt (blk_lt (g := gb155) (b_ BK155)) : gb173 ≠ gb155)); replace BK155 := A_ (blk_below (g := gb155) (b_ BK155) hb); have NB156_173 := A_ ((by rw [hg]; exact Nat.ne_of_lt (blk_lt (g := gb156) (b_ BK156)) : gb156 ≠ gb173)); have NB173_156 := A_ ((by rw [hg]; exact Nat.ne_of_gt (blk_lt (g := gb156) (b_ BK156)) : gb173 ≠ gb156)); replace BK156 := A_ (blk_below (g := gb156) (b_ BK156) hb); clear hb hbox hg; have hnb10 := NB173_155.out; have hnc10 := NB155_173.out; have hnb11 := NB173_156.out; have hnc11 := NB156_173.out; obtain ⟨hcz12_0, hcz12_1, hcz12_2, hcz12_3, hcz12_4, hcz12_5, hcz12_6, hcz12_7, hcz12_8, hfz12_0, hfz12_1, hfz12_2, hfz12_3, hfz12_4, hfz12_5, hfz12_6, hfz12_7, hfz12_8⟩ := cf9_ BK173; obtain ⟨Ao13, co13, eo13⟩ := Kd.V_slice HO164.out; subst eo13; obtain ⟨Ao14, co14, eo14⟩ := Kd.V_slice HO167.out; subst eo14; obtain ⟨Ao15, co15, eo15⟩ := Kd.V_slice HO170.out; subst eo15; have hnb16 := NB155_156.out; have hnc16 := NB156_155.out; obtain ⟨hcz17_0, hcz17_1, hcz17_2, hfz17_0, hfz17_1, hfz17_2⟩ := cf3_ BK155; obtain ⟨hcz18_0, hcz18_1, hcz18_2, hcz18_3, hcz18_4, hcz18_5, hfz18_0, hfz18_1, hfz18_2, hfz18_3, hfz18_4, hfz18_5⟩ := cf6_ BK156))
   refine bodyPost_ret (results_ct rfl _ _ gb156 45 #[.int .i64 0, .int .i64 0, .slice none 0 0, .slice none 0 0, .slice none 0 0, .bool false] (0, 0) _ rfl (by (with_reducible repeat (first|apply bA_|apply bN_|apply bD_)); refine blk_put (cs := #[.int .i64 0, .int .i64 0, .slice none 0 0, .slice none 0 0, .slice none 0 0, .bool false]) ?_ 5 _ rfl; (with_reducible repeat (first|apply bA_|apply bN_|apply bD_)); refine blk_put (cs := #[.int .i64 0, .int .i64 0, .slice none 0 0, .slice none 0 0, .slice none 0 0, .bool false]) ?_ 4 _ rfl; (with_reducible repeat (first|apply bA_|apply bN_|apply bD_)); refine blk_put (cs := #[.int .i64 0, .int .i64 0, .slice none 0 0, .slice none 0 0, .slice none 0 0, .bool false]) ?_ 3 _ rfl; (with_reducible repeat (first|apply bA_|apply bN_|apply bD_)); refine blk_put (cs := #[.int .i64 0, .int .i64 0, .slice none 0 0, .slice none 0 0, .slice none 0 0, .bool false]) ?_ 2 _ rfl; (with_reducible repeat (first|apply bA_|apply bN_|apply bD_)); refine blk_put (cs := #[.int .i64 0, .int .i64 0, .slice none 0 0, .slice none 0 0, .slice none 0 0, .bool false]) ?_ 1 _ rfl; (with_reducible repeat (first|apply bA_|apply bN_|apply bD_)); refine blk_put (cs := #[.int .i64 0, .int .i64 0, .slice none 0 0, .slice none 0 0, .slice none 0 0, .bool false]) ?_ 0 _ rfl; (with_reducible repeat (first|apply bA_|apply bN_|apply bD_)); refine blk_far ?_ NB156_173.out _; (with_reducible repeat (first|apply bA_|apply bN_|apply bD_)); refine blk_far ?_ NB156_173.out _; (with_reducible repeat (first|apply bA_|apply bN_|apply bD_)); refine blk_far ?_ NB156_173.out _; (with_reducible repeat (first|apply bA_|apply bN_|apply bD_)); refine blk_far ?_ NB156_173.out _; (with_reducible repeat (first|apply bA_|apply bN_|apply bD_)); refine blk_far ?_ NB156_173.out _; (with_reducible repeat (first|apply bA_|apply bN_|apply bD_)); refine blk_far ?_ NB156_173.out _; (with_reducible repeat (first|apply bA_|apply bN_|apply bD_)); refine blk_far ?_ NB156_173.out _; (with_reducible repeat (first|apply bA_|apply bN_|apply bD_)); refine blk_far ?_ NB156_173.out _; (with_reducible repeat (first|apply bA_|apply bN_|apply bD_)); refine blk_far ?_ NB156_173.out _; (with_reducible repeat (first|apply bA_|apply bN_|apply bD_)); exact BK156.out) Tryd.underlying45 rfl (by kernel_rfl)) rfl ?_
   exact ⟨_, _, _, by first | rfl | (simp [errW_none, errW_some] <;> rfl) | (simp [*, errW_none, errW_some] <;> rfl), by exact Kd.V_nil _ _ _ _ _, by exact Kd.V_nil _ _ _ _ _, by exact Kd.V_nil _ _ _ _ _, hB_ w⟩
  rw [if_neg c5] at H
  have c5b0 : (!(t157 == a1_0) || (!(t158 == a1_1) || (!(t159 == a1_2)))) = false := by simpa using c5
  clear c5
  simp only [Option.some.injEq, Prod.mk.injEq] at H
  obtain ⟨rfl, rfl, rfl, rfl, rfl, rfl, rfl⟩ := H
  go_enter Tryd.func17, Tryd.ntmps17
  go_wp2_with (first | ((with_reducible refine gate_dst (N := 3) rfl ?_); refine box_event ?hg (N := 3) ?hd (cs := #[.int .i64 a1_0, .int .i64 a1_1, .int .i64 a1_2]) (t := 31) ?hr ?_; (case hd => rfl); (case hg => rfl); (case hr => first | (go_simp; done) | (go_simp; rfl)); intro gb155 hg w19 hbox hb; have BK155 := A_ hbox; have GW155 := A_ ((by rw [hg]; exact (below_size (hB_ w)) : w.heap.size ≤ gb155)); have GE155 := A_ ((by rw [hg]; exact (below_size (hB_ w)) : w.heap.size ≤ gb155)); replace HB := A_ (below_step (hB_ w) hb); clear hb hbox hg) | ((with_reducible refine gate_dst (N := 4) rfl ?_); refine box_event ?hg (N := 4) ?hd (cs := #[.int .i64 0, .int .i64 0, .slice none 0 0, .slice none 0 0, .slice none 0 0, .bool false]) (t := 45) ?hr ?_; (case hd => rfl); (case hg => rfl); (case hr => first | (go_simp; done) | (go_simp; rfl)); intro gb156 hg w20 hbox hb; have BK156 := A_ hbox; have GW156 := A_ ((by rw [hg]; exact (below_size (hB_ w)) : w.heap.size ≤ gb156)); have GE156 := A_ ((by rw [hg]; exact (below_size (hB_ w)) : w.heap.size ≤ gb156)); replace HB := A_ (below_step (hB_ w) hb); have NB155_156 := A_ ((by rw [hg]; exact Nat.ne_of_lt (blk_lt (g := gb155) (b_ BK155)) : gb155 ≠ gb156)); have NB156_155 := A_ ((by rw [hg]; exact Nat.ne_of_gt (blk_lt (g := gb155) (b_ BK155)) : gb156 ≠ gb155)); replace BK155 := A_ (blk_below (g := gb155) (b_ BK155) hb); clear hb hbox hg) | ((with_reducible refine gate_callee (f := 25) rfl ?_); refine goesL_ (some 10) rfl rfl Tryd.func25 (by kernel_rfl) rfl #[.string a0] rfl (by (try simp only [List.map_toArray, List.map_cons, List.map_nil]); first | done | rfl | (simp only [List.length_drop, List.length_take]; rfl)) ?_; (with_reducible refine (crc_Take.calls a0 t157 t158 t159 t160 t161 t162 t165 t168 t171 t172 _ (tbc_at w) A3.out).mono ?_); rintro e w21 ⟨v163, v166, v169, rfl, ho0, ho1, ho2, hb⟩; refine ⟨_, rfl, ?_⟩; have HO164 := A_ (Kd.V_lower (Kd.V_mono (ok' := fun k_ => (w.heap.size ≤ k_) ∧ k_ ≠ gb155 ∧ k_ ≠ gb156) ho0 (fun k_ hk_ => ⟨(Nat.le_trans (below_size (hB_ w)) hk_), (Kd.freshB (g := gb155) (b_ BK155) k_ hk_), (Kd.freshB (g := gb156) (b_ BK156) k_ hk_)⟩)) (below_size (hB_ w))); have HO167 := A_ (Kd.V_lower (Kd.V_mono (ok' := fun k_ => (w.heap.size ≤ k_) ∧ k_ ≠ gb155 ∧ k_ ≠ gb156) ho1 (fun k_ hk_ => ⟨(Nat.le_trans (below_size (hB_ w)) hk_), (Kd.freshB (g := gb155) (b_ BK155) k_ hk_), (Kd.freshB (g := gb156) (b_ BK156) k_ hk_)⟩)) (below_size (hB_ w))); have HO170 := A_ (Kd.V_lower (Kd.V_mono (ok' := fun k_ => (w.heap.size ≤ k_) ∧ k_ ≠ gb155 ∧ k_ ≠ gb156) ho2 (fun k_ hk_ => ⟨(Nat.le_trans (below_size (hB_ w)) hk_), (Kd.freshB (g := gb155) (b_ BK155) k_ hk_), (Kd.freshB (g := gb156) (b_ BK156) k_ hk_)⟩)) (below_size (hB_ w))); replace BK155 := A_ (blk_below (g := gb155) (b_ BK155) hb); replace BK156 := A_ (blk_below (g := gb156) (b_ BK156) hb); replace HB := A_ (below_step (hB_ w) hb); (try clear hb); (try clear hb2); (try clear hk); (try clear hi); (try clear ho0); (try clear ho1); (try clear ho2)) | ((with_reducible refine gate_dst (N := 6) rfl ?_); refine box_event ?hg (N := 6) ?hd (cs := #[.int .i64 0, .int .i64 0, .int .i64 0, .int .i64 0, .int .i64 0, .slice none 0 0, .slice none 0 0, .slice none 0 0, .bool false]) (t := 63) ?hr ?_; (case hd => rfl); (case hg => rfl); (case hr => first | (go_simp; done) | (go_simp; rfl)); intro gb173 hg w22 hbox hb; replace HO164 := A_ (Kd.V_below (Kd.V_elderB (v_ HO164) gb173 (Nat.le_of_eq hg.symm)) hb); replace HO167 := A_ (Kd.V_below (Kd.V_elderB (v_ HO167) gb173 (Nat.le_of_eq hg.symm)) hb); replace HO170 := A_ (Kd.V_below (Kd.V_elderB (v_ HO170) gb173 (Nat.le_of_eq hg.symm)) hb); have BK173 := A_ hbox; have GW173 := A_ ((by rw [hg]; exact (below_size (hB_ w)) : w.heap.size ≤ gb173)); have GE173 := A_ ((by rw [hg]; exact (below_size (hB_ w)) : w.heap.size ≤ gb173)); replace HB := A_ (below_step (hB_ w) hb); have NB155_173 := A_ ((by rw [hg]; exact Nat.ne_of_lt (blk_lt (g := gb155) (b_ BK155)) : gb155 ≠ gb173)); have NB173_155 := A_ ((by rw [hg]; exact Nat.ne_of_gt (blk_lt (g := gb155) (b_ BK155)) : gb173 ≠ gb155)); replace BK155 := A_ (blk_below (g := gb155) (b_ BK155) hb); have NB156_173 := A_ ((by rw [hg]; exact Nat.ne_of_lt (blk_lt (g := gb156) (b_ BK156)) : gb156 ≠ gb173)); have NB173_156 := A_ ((by rw [hg]; exact Nat.ne_of_gt (blk_lt (g := gb156) (b_ BK156)) : gb173 ≠ gb156)); replace BK156 := A_ (blk_below (g := gb156) (b_ BK156) hb); clear hb hbox hg; have hnb23 := NB173_155.out; have hnc23 := NB155_173.out; have hnb24 := NB173_156.out; have hnc24 := NB156_173.out; obtain ⟨hcz25_0, hcz25_1, hcz25_2, hcz25_3, hcz25_4, hcz25_5, hcz25_6, hcz25_7, hcz25_8, hfz25_0, hfz25_1, hfz25_2, hfz25_3, hfz25_4, hfz25_5, hfz25_6, hfz25_7, hfz25_8⟩ := cf9_ BK173; obtain ⟨Ao26, co26, eo26⟩ := Kd.V_slice HO164.out; subst eo26; obtain ⟨Ao27, co27, eo27⟩ := Kd.V_slice HO167.out; subst eo27; obtain ⟨Ao28, co28, eo28⟩ := Kd.V_slice HO170.out; subst eo28; have hnb29 := NB155_156.out; have hnc29 := NB156_155.out; obtain ⟨hcz30_0, hcz30_1, hcz30_2, hfz30_0, hfz30_1, hfz30_2⟩ := cf3_ BK155; obtain ⟨hcz31_0, hcz31_1, hcz31_2, hcz31_3, hcz31_4, hcz31_5, hfz31_0, hfz31_1, hfz31_2, hfz31_3, hfz31_4, hfz31_5⟩ := cf6_ BK156))
  refine bodyPost_ret (results_ct rfl _ _ gb156 45 #[.int .i64 t160, .int .i64 t161, .slice Ao26 t162.length co26, .slice Ao27 t165.length co27, .slice Ao28 t168.length co28, .bool t171] (0, 0) _ rfl (by (with_reducible repeat (first|apply bA_|apply bN_|apply bD_)); refine blk_put (cs := #[.int .i64 t160, .int .i64 t161, .slice Ao26 t162.length co26, .slice Ao27 t165.length co27, .slice Ao28 t168.length co28, .bool false]) ?_ 5 _ rfl; (with_reducible repeat (first|apply bA_|apply bN_|apply bD_)); refine blk_put (cs := #[.int .i64 t160, .int .i64 t161, .slice Ao26 t162.length co26, .slice Ao27 t165.length co27, .slice none 0 0, .bool false]) ?_ 4 _ rfl; (with_reducible repeat (first|apply bA_|apply bN_|apply bD_)); refine blk_put (cs := #[.int .i64 t160, .int .i64 t161, .slice Ao26 t162.length co26, .slice none 0 0, .slice none 0 0, .bool false]) ?_ 3 _ rfl; (with_reducible repeat (first|apply bA_|apply bN_|apply bD_)); refine blk_put (cs := #[.int .i64 t160, .int .i64 t161, .slice none 0 0, .slice none 0 0, .slice none 0 0, .bool false]) ?_ 2 _ rfl; (with_reducible repeat (first|apply bA_|apply bN_|apply bD_)); refine blk_put (cs := #[.int .i64 t160, .int .i64 0, .slice none 0 0, .slice none 0 0, .slice none 0 0, .bool false]) ?_ 1 _ rfl; (with_reducible repeat (first|apply bA_|apply bN_|apply bD_)); refine blk_put (cs := #[.int .i64 0, .int .i64 0, .slice none 0 0, .slice none 0 0, .slice none 0 0, .bool false]) ?_ 0 _ rfl; (with_reducible repeat (first|apply bA_|apply bN_|apply bD_)); refine blk_far ?_ NB156_173.out _; (with_reducible repeat (first|apply bA_|apply bN_|apply bD_)); refine blk_far ?_ NB156_173.out _; (with_reducible repeat (first|apply bA_|apply bN_|apply bD_)); refine blk_far ?_ NB156_173.out _; (with_reducible repeat (first|apply bA_|apply bN_|apply bD_)); refine blk_far ?_ NB156_173.out _; (with_reducible repeat (first|apply bA_|apply bN_|apply bD_)); refine blk_far ?_ NB156_173.out _; (with_reducible repeat (first|apply bA_|apply bN_|apply bD_)); refine blk_far ?_ NB156_173.out _; (with_reducible repeat (first|apply bA_|apply bN_|apply bD_)); refine blk_far ?_ NB156_173.out _; (with_reducible repeat (first|apply bA_|apply bN_|apply bD_)); refine blk_far ?_ NB156_173.out _; (with_reducible repeat (first|apply bA_|apply bN_|apply bD_)); refine blk_far ?_ NB156_173.out _; (with_reducible repeat (first|apply bA_|apply bN_|apply bD_)); exact BK156.out) Tryd.underlying45 rfl (by kernel_rfl)) rfl ?_
  exact ⟨_, _, _, by first | rfl | (simp [errW_none, errW_some] <;> rfl) | (simp [*, errW_none, errW_some] <;> rfl), by (with_reducible repeat (first|apply vA_|apply vN_|apply vD_)); exact Kd.V_mono (Kd.V_far (p := ⟨gb156, 5, none⟩) (Kd.V_far (p := ⟨gb156, 4, none⟩) (Kd.V_far (p := ⟨gb156, 3, none⟩) (Kd.V_far (p := ⟨gb156, 2, none⟩) (Kd.V_far (p := ⟨gb156, 1, none⟩) (Kd.V_far (p := ⟨gb156, 0, none⟩) (Kd.V_far (p := ⟨gb173, 8, none⟩) (Kd.V_far (p := ⟨gb173, 7, none⟩) (Kd.V_far (p := ⟨gb173, 6, none⟩) (Kd.V_far (p := ⟨gb173, 5, none⟩) (Kd.V_far (p := ⟨gb173, 4, none⟩) (Kd.V_far (p := ⟨gb173, 3, none⟩) (Kd.V_far (p := ⟨gb173, 2, none⟩) (Kd.V_far (p := ⟨gb173, 1, none⟩) (Kd.V_far (p := ⟨gb173, 0, none⟩) (Kd.V_mono (Kd.V_mono HO164.out (fun k_ hk => (⟨hk, hk.2⟩ : _ ∧ k_ ≠ gb173))) (fun k_ hk => (⟨hk, hk.1.1.2.2⟩ : _ ∧ k_ ≠ gb156))) (fun _ hk => hk.1.2) (.int .i64 t157)) (fun _ hk => hk.1.2) (.int .i64 t158)) (fun _ hk => hk.1.2) (.int .i64 t159)) (fun _ hk => hk.1.2) (.int .i64 t160)) (fun _ hk => hk.1.2) (.int .i64 t161)) (fun _ hk => hk.1.2) (.slice Ao26 t162.length co26)) (fun _ hk => hk.1.2) (.slice Ao27 t165.length co27)) (fun _ hk => hk.1.2) (.slice Ao28 t168.length co28)) (fun _ hk => hk.1.2) (.bool t171)) (fun _ hk => hk.2) (.int .i64 t160)) (fun _ hk => hk.2) (.int .i64 t161)) (fun _ hk => hk.2) (.slice Ao26 t162.length co26)) (fun _ hk => hk.2) (.slice Ao27 t165.length co27)) (fun _ hk => hk.2) (.slice Ao28 t168.length co28)) (fun _ hk => hk.2) (.bool t171)) (fun _ hk => hk.1.1.1.1), by (with_reducible repeat (first|apply vA_|apply vN_|apply vD_)); exact Kd.V_mono (Kd.V_far (p := ⟨gb156, 5, none⟩) (Kd.V_far (p := ⟨gb156, 4, none⟩) (Kd.V_far (p := ⟨gb156, 3, none⟩) (Kd.V_far (p := ⟨gb156, 2, none⟩) (Kd.V_far (p := ⟨gb156, 1, none⟩) (Kd.V_far (p := ⟨gb156, 0, none⟩) (Kd.V_far (p := ⟨gb173, 8, none⟩) (Kd.V_far (p := ⟨gb173, 7, none⟩) (Kd.V_far (p := ⟨gb173, 6, none⟩) (Kd.V_far (p := ⟨gb173, 5, none⟩) (Kd.V_far (p := ⟨gb173, 4, none⟩) (Kd.V_far (p := ⟨gb173, 3, none⟩) (Kd.V_far (p := ⟨gb173, 2, none⟩) (Kd.V_far (p := ⟨gb173, 1, none⟩) (Kd.V_far (p := ⟨gb173, 0, none⟩) (Kd.V_mono (Kd.V_mono HO167.out (fun k_ hk => (⟨hk, hk.2⟩ : _ ∧ k_ ≠ gb173))) (fun k_ hk => (⟨hk, hk.1.1.2.2⟩ : _ ∧ k_ ≠ gb156))) (fun _ hk => hk.1.2) (.int .i64 t157)) (fun _ hk => hk.1.2) (.int .i64 t158)) (fun _ hk => hk.1.2) (.int .i64 t159)) (fun _ hk => hk.1.2) (.int .i64 t160)) (fun _ hk => hk.1.2) (.int .i64 t161)) (fun _ hk => hk.1.2) (.slice Ao26 t162.length co26)) (fun _ hk => hk.1.2) (.slice Ao27 t165.length co27)) (fun _ hk => hk.1.2) (.slice Ao28 t168.length co28)) (fun _ hk => hk.1.2) (.bool t171)) (fun _ hk => hk.2) (.int .i64 t160)) (fun _ hk => hk.2) (.int .i64 t161)) (fun _ hk => hk.2) (.slice Ao26 t162.length co26)) (fun _ hk => hk.2) (.slice Ao27 t165.length co27)) (fun _ hk => hk.2) (.slice Ao28 t168.length co28)) (fun _ hk => hk.2) (.bool t171)) (fun _ hk => hk.1.1.1.1), by (with_reducible repeat (first|apply vA_|apply vN_|apply vD_)); exact Kd.V_mono (Kd.V_far (p := ⟨gb156, 5, none⟩) (Kd.V_far (p := ⟨gb156, 4, none⟩) (Kd.V_far (p := ⟨gb156, 3, none⟩) (Kd.V_far (p := ⟨gb156, 2, none⟩) (Kd.V_far (p := ⟨gb156, 1, none⟩) (Kd.V_far (p := ⟨gb156, 0, none⟩) (Kd.V_far (p := ⟨gb173, 8, none⟩) (Kd.V_far (p := ⟨gb173, 7, none⟩) (Kd.V_far (p := ⟨gb173, 6, none⟩) (Kd.V_far (p := ⟨gb173, 5, none⟩) (Kd.V_far (p := ⟨gb173, 4, none⟩) (Kd.V_far (p := ⟨gb173, 3, none⟩) (Kd.V_far (p := ⟨gb173, 2, none⟩) (Kd.V_far (p := ⟨gb173, 1, none⟩) (Kd.V_far (p := ⟨gb173, 0, none⟩) (Kd.V_mono (Kd.V_mono HO170.out (fun k_ hk => (⟨hk, hk.2⟩ : _ ∧ k_ ≠ gb173))) (fun k_ hk => (⟨hk, hk.1.1.2.2⟩ : _ ∧ k_ ≠ gb156))) (fun _ hk => hk.1.2) (.int .i64 t157)) (fun _ hk => hk.1.2) (.int .i64 t158)) (fun _ hk => hk.1.2) (.int .i64 t159)) (fun _ hk => hk.1.2) (.int .i64 t160)) (fun _ hk => hk.1.2) (.int .i64 t161)) (fun _ hk => hk.1.2) (.slice Ao26 t162.length co26)) (fun _ hk => hk.1.2) (.slice Ao27 t165.length co27)) (fun _ hk => hk.1.2) (.slice Ao28 t168.length co28)) (fun _ hk => hk.1.2) (.bool t171)) (fun _ hk => hk.2) (.int .i64 t160)) (fun _ hk => hk.2) (.int .i64 t161)) (fun _ hk => hk.2) (.slice Ao26 t162.length co26)) (fun _ hk => hk.2) (.slice Ao27 t165.length co27)) (fun _ hk => hk.2) (.slice Ao28 t168.length co28)) (fun _ hk => hk.2) (.bool t171)) (fun _ hk => hk.1.1.1.1), hB_ w⟩
 rw [if_neg c4] at H
 have c4b0 : (t172 == 0) = false := beq_eq_false_iff_ne.mpr c4
 have c4b1 : (t172 != 0) = true := bne_iff_ne.mpr c4
 simp only [Option.some.injEq, Prod.mk.injEq] at H
 obtain ⟨rfl, rfl, rfl, rfl, rfl, rfl, rfl⟩ := H
 go_enter Tryd.func17, Tryd.ntmps17
 go_wp2_with (first | ((with_reducible refine gate_dst (N := 3) rfl ?_); refine box_event ?hg (N := 3) ?hd (cs := #[.int .i64 a1_0, .int .i64 a1_1, .int .i64 a1_2]) (t := 31) ?hr ?_; (case hd => rfl); (case hg => rfl); (case hr => first | (go_simp; done) | (go_simp; rfl)); intro gb155 hg w32 hbox hb; have BK155 := A_ hbox; have GW155 := A_ ((by rw [hg]; exact (below_size (hB_ w)) : w.heap.size ≤ gb155)); have GE155 := A_ ((by rw [hg]; exact (below_size (hB_ w)) : w.heap.size ≤ gb155)); replace HB := A_ (below_step (hB_ w) hb); clear hb hbox hg) | ((with_reducible refine gate_dst (N := 4) rfl ?_); refine box_event ?hg (N := 4) ?hd (cs := #[.int .i64 0, .int .i64 0, .slice none 0 0, .slice none 0 0, .slice none 0 0, .bool false]) (t := 45) ?hr ?_; (case hd => rfl); (case hg => rfl); (case hr => first | (go_simp; done) | (go_simp; rfl)); intro gb156 hg w33 hbox hb; have BK156 := A_ hbox; have GW156 := A_ ((by rw [hg]; exact (below_size (hB_ w)) : w.heap.size ≤ gb156)); have GE156 := A_ ((by rw [hg]; exact (below_size (hB_ w)) : w.heap.size ≤ gb156)); replace HB := A_ (below_step (hB_ w) hb); have NB155_156 := A_ ((by rw [hg]; exact Nat.ne_of_lt (blk_lt (g := gb155) (b_ BK155)) : gb155 ≠ gb156)); have NB156_155 := A_ ((by rw [hg]; exact Nat.ne_of_gt (blk_lt (g := gb155) (b_ BK155)) : gb156 ≠ gb155)); replace BK155 := A_ (blk_below (g := gb155) (b_ BK155) hb); clear hb hbox hg) | ((with_reducible refine gate_callee (f := 25) rfl ?_); refine goesL_ (some 10) rfl rfl Tryd.func25 (by kernel_rfl) rfl #[.string a0] rfl (by (try simp only [List.map_toArray, List.map_cons, List.map_nil]); first | done | rfl | (simp only [List.length_drop, List.length_take]; rfl)) ?_; (with_reducible refine (crc_Take.calls a0 t157 t158 t159 t160 t161 t162 t165 t168 t171 t172 _ (tbc_at w) A3.out).mono ?_); rintro e w34 ⟨v163, v166, v169, rfl, ho0, ho1, ho2, hb⟩; refine ⟨_, rfl, ?_⟩; have HO164 := A_ (Kd.V_lower (Kd.V_mono (ok' := fun k_ => (w.heap.size ≤ k_) ∧ k_ ≠ gb155 ∧ k_ ≠ gb156) ho0 (fun k_ hk_ => ⟨(Nat.le_trans (below_size (hB_ w)) hk_), (Kd.freshB (g := gb155) (b_ BK155) k_ hk_), (Kd.freshB (g := gb156) (b_ BK156) k_ hk_)⟩)) (below_size (hB_ w))); have HO167 := A_ (Kd.V_lower (Kd.V_mono (ok' := fun k_ => (w.heap.size ≤ k_) ∧ k_ ≠ gb155 ∧ k_ ≠ gb156) ho1 (fun k_ hk_ => ⟨(Nat.le_trans (below_size (hB_ w)) hk_), (Kd.freshB (g := gb155) (b_ BK155) k_ hk_), (Kd.freshB (g := gb156) (b_ BK156) k_ hk_)⟩)) (below_size (hB_ w))); have HO170 := A_ (Kd.V_lower (Kd.V_mono (ok' := fun k_ => (w.heap.size ≤ k_) ∧ k_ ≠ gb155 ∧ k_ ≠ gb156) ho2 (fun k_ hk_ => ⟨(Nat.le_trans (below_size (hB_ w)) hk_), (Kd.freshB (g := gb155) (b_ BK155) k_ hk_), (Kd.freshB (g := gb156) (b_ BK156) k_ hk_)⟩)) (below_size (hB_ w))); replace BK155 := A_ (blk_below (g := gb155) (b_ BK155) hb); replace BK156 := A_ (blk_below (g := gb156) (b_ BK156) hb); replace HB := A_ (below_step (hB_ w) hb); (try clear hb); (try clear hb2); (try clear hk); (try clear hi); (try clear ho0); (try clear ho1); (try clear ho2)) | ((with_reducible refine gate_dst (N := 6) rfl ?_); refine box_event ?hg (N := 6) ?hd (cs := #[.int .i64 0, .int .i64 0, .int .i64 0, .int .i64 0, .int .i64 0, .slice none 0 0, .slice none 0 0, .slice none 0 0, .bool false]) (t := 63) ?hr ?_; (case hd => rfl); (case hg => rfl); (case hr => first | (go_simp; done) | (go_simp; rfl)); intro gb173 hg w35 hbox hb; replace HO164 := A_ (Kd.V_below (Kd.V_elderB (v_ HO164) gb173 (Nat.le_of_eq hg.symm)) hb); replace HO167 := A_ (Kd.V_below (Kd.V_elderB (v_ HO167) gb173 (Nat.le_of_eq hg.symm)) hb); replace HO170 := A_ (Kd.V_below (Kd.V_elderB (v_ HO170) gb173 (Nat.le_of_eq hg.symm)) hb); have BK173 := A_ hbox; have GW173 := A_ ((by rw [hg]; exact (below_size (hB_ w)) : w.heap.size ≤ gb173)); have GE173 := A_ ((by rw [hg]; exact (below_size (hB_ w)) : w.heap.size ≤ gb173)); replace HB := A_ (below_step (hB_ w) hb); have NB155_173 := A_ ((by rw [hg]; exact Nat.ne_of_lt (blk_lt (g := gb155) (b_ BK155)) : gb155 ≠ gb173)); have NB173_155 := A_ ((by rw [hg]; exact Nat.ne_of_gt (blk_lt (g := gb155) (b_ BK155)) : gb173 ≠ gb155)); replace BK155 := A_ (blk_below (g := gb155) (b_ BK155) hb); have NB156_173 := A_ ((by rw [hg]; exact Nat.ne_of_lt (blk_lt (g := gb156) (b_ BK156)) : gb156 ≠ gb173)); have NB173_156 := A_ ((by rw [hg]; exact Nat.ne_of_gt (blk_lt (g := gb156) (b_ BK156)) : gb173 ≠ gb156)); replace BK156 := A_ (blk_below (g := gb156) (b_ BK156) hb); clear hb hbox hg; have hnb36 := NB173_155.out; have hnc36 := NB155_173.out; have hnb37 := NB173_156.out; have hnc37 := NB156_173.out; obtain ⟨hcz38_0, hcz38_1, hcz38_2, hcz38_3, hcz38_4, hcz38_5, hcz38_6, hcz38_7, hcz38_8, hfz38_0, hfz38_1, hfz38_2, hfz38_3, hfz38_4, hfz38_5, hfz38_6, hfz38_7, hfz38_8⟩ := cf9_ BK173; obtain ⟨Ao39, co39, eo39⟩ := Kd.V_slice HO164.out; subst eo39; obtain ⟨Ao40, co40, eo40⟩ := Kd.V_slice HO167.out; subst eo40; obtain ⟨Ao41, co41, eo41⟩ := Kd.V_slice HO170.out; subst eo41; have hnb42 := NB156_155.out; have hnc42 := NB155_156.out; obtain ⟨hcz43_0, hcz43_1, hcz43_2, hcz43_3, hcz43_4, hcz43_5, hfz43_0, hfz43_1, hfz43_2, hfz43_3, hfz43_4, hfz43_5⟩ := cf6_ BK156))
 refine bodyPost_ret (results_ct rfl _ _ gb156 45 #[.int .i64 0, .int .i64 0, .slice none 0 0, .slice none 0 0, .slice none 0 0, .bool false] (0, 0) _ rfl (by (with_reducible repeat (first|apply bA_|apply bN_|apply bD_)); refine blk_put (cs := #[.int .i64 0, .int .i64 0, .slice none 0 0, .slice none 0 0, .slice none 0 0, .bool false]) ?_ 5 _ rfl; (with_reducible repeat (first|apply bA_|apply bN_|apply bD_)); refine blk_put (cs := #[.int .i64 0, .int .i64 0, .slice none 0 0, .slice none 0 0, .slice none 0 0, .bool false]) ?_ 4 _ rfl; (with_reducible repeat (first|apply bA_|apply bN_|apply bD_)); refine blk_put (cs := #[.int .i64 0, .int .i64 0, .slice none 0 0, .slice none 0 0, .slice none 0 0, .bool false]) ?_ 3 _ rfl; (with_reducible repeat (first|apply bA_|apply bN_|apply bD_)); refine blk_put (cs := #[.int .i64 0, .int .i64 0, .slice none 0 0, .slice none 0 0, .slice none 0 0, .bool false]) ?_ 2 _ rfl; (with_reducible repeat (first|apply bA_|apply bN_|apply bD_)); refine blk_put (cs := #[.int .i64 0, .int .i64 0, .slice none 0 0, .slice none 0 0, .slice none 0 0, .bool false]) ?_ 1 _ rfl; (with_reducible repeat (first|apply bA_|apply bN_|apply bD_)); refine blk_put (cs := #[.int .i64 0, .int .i64 0, .slice none 0 0, .slice none 0 0, .slice none 0 0, .bool false]) ?_ 0 _ rfl; (with_reducible repeat (first|apply bA_|apply bN_|apply bD_)); refine blk_far ?_ NB156_173.out _; (with_reducible repeat (first|apply bA_|apply bN_|apply bD_)); refine blk_far ?_ NB156_173.out _; (with_reducible repeat (first|apply bA_|apply bN_|apply bD_)); refine blk_far ?_ NB156_173.out _; (with_reducible repeat (first|apply bA_|apply bN_|apply bD_)); refine blk_far ?_ NB156_173.out _; (with_reducible repeat (first|apply bA_|apply bN_|apply bD_)); refine blk_far ?_ NB156_173.out _; (with_reducible repeat (first|apply bA_|apply bN_|apply bD_)); refine blk_far ?_ NB156_173.out _; (with_reducible repeat (first|apply bA_|apply bN_|apply bD_)); refine blk_far ?_ NB156_173.out _; (with_reducible repeat (first|apply bA_|apply bN_|apply bD_)); refine blk_far ?_ NB156_173.out _; (with_reducible repeat (first|apply bA_|apply bN_|apply bD_)); refine blk_far ?_ NB156_173.out _; (with_reducible repeat (first|apply bA_|apply bN_|apply bD_)); exact BK156.out) Tryd.underlying45 rfl (by kernel_rfl)) rfl ?_
 exact ⟨_, _, _, by first | rfl | (simp [errW_none, errW_some] <;> rfl) | (simp [*, errW_none, errW_some] <;> rfl), by exact Kd.V_nil _ _ _ _ _, by exact Kd.V_nil _ _ _ _ _, by exact Kd.V_nil _ _ _ _ _, hB_ w⟩

end Go.Proofs.YtbpobnlkfpjijaaDoorR.Pr
end
-- Gl
section
namespace Go.Proofs.YtbpobnlkfpjijaaDoorR.Pr
open Go.RowKit Go.Shelf Go.Proofs.YtbpobnlkfpjijaaDoorRW.PrintWords Go.Proofs.YtbpobnlkfpjijaaDoorRW.PrintLast Go.Proofs.YtbpobnlkfpjijaaDoorRW.PrintMore
set_option linter.unusedVariables false
set_option linter.unusedSimpArgs false
attribute [local go_sem] Oper.semAt_some
/-- A name that begins with c. -/
def hasC (s : ByteArray) : Bool := decide (1 ≤ s.size) && ((s.extract 0 1).toList == [99])
set_option maxHeartbeats 1000000 in
theorem prefix89_calls (s : ByteArray) (w : World) : Calls Tryd.prog 50 #[.string s, .string ⟨#[99]⟩] w fun e w' => e = .returned (.bool (hasC s)) ∧ w' = w := by
  have h0 : (⟨#[99]⟩ : ByteArray).size = 1 := rfl
  have h1 : (0 : Int) ≤ (s.size : Int) := by omega
  by_cases hc : 1 ≤ s.size
  · have hc' : (1 : Int) ≤ (s.size : Int) := by omega
    go_enter Tryd.func50, Tryd.ntmps50
    go_wp2
    go_ret
    refine ⟨?_, rfl⟩
    simp [hasC, hc, ByteArray.toList_eq]
  · have hc' : ¬ (1 : Int) ≤ (s.size : Int) := by omega
    go_enter Tryd.func50, Tryd.ntmps50
    go_wp2
    go_ret
    exact ⟨by simp [hasC, hc], rfl⟩
set_option maxHeartbeats 1000000 in
theorem prefix_calls (s : ByteArray) (w : World) : Calls Tryd.prog 33 #[.string s, .string ⟨#[99]⟩] w fun e w' => e = .returned (.bool (hasC s)) ∧ w' = w := by
  go_enter Tryd.func33, Tryd.ntmps33
  go_wp2_with (go_at_call 50; refine (prefix89_calls _ _).mono ?_; rintro e w' ⟨rfl, rfl⟩)
  go_ret
  exact ⟨rfl, rfl⟩
set_option maxHeartbeats 1000000 in
theorem names_calls (a : Int) (A : Option Addr) (n c : Nat) (b : ByteArray) (w : World) : Calls Tryd.prog 23 #[.agg #[.int .i64 a, .slice A n c], .string b] w fun e w' => e = .returned (.func (.func 32) #[] #[.pointer (some ⟨w.heap.size, 0, none⟩), .pointer (some ⟨w.heap.size + 1, 0, none⟩)]) ∧ w' = (w.alloc (.cells #[.int .i64 a, .slice A n c] 29)).alloc (.cells #[.string b] 9) := by
  go_enter Tryd.func23, Tryd.ntmps23
  go_wp2
  go_ret
  exact ⟨rfl, rfl⟩
/-- What a round that goes on keeps: what lay below n, and one block more. -/
def KeepsB (n B : Nat) (W W' : World) : Prop := Below n W W' ∧ W'.heap[B]? = W.heap[B]?
/-- The names so far that begin so. -/
def beg (l0 : List S41) (k : Nat) : List ByteArray := ((l0.map (·.f0)).take k).filter hasC
theorem beg_succ (l0 : List S41) (k : Nat) (h : k < l0.length) : beg l0 (k + 1) = beg l0 k ++ (if hasC (rd_T41 l0 (k : Int)).f0 = true then [(rd_T41 l0 (k : Int)).f0] else []) := by
  unfold beg
  rw [List.take_succ_eq_append_getElem (by simpa using h), List.filter_append]
  simp only [rd_T41, List.getD_eq_getElem?_getD, Int.toNat_natCast, List.getElem?_eq_getElem h, Option.getD_some, List.getElem_map]
  split
  · rename_i hc
    rw [List.filter_cons_of_pos hc, List.filter_nil]
  · rename_i hc
    rw [List.filter_cons_of_neg hc, List.filter_nil]
theorem beg_len (l0 : List S41) (k : Nat) : (beg l0 k).length ≤ k := Nat.le_trans (List.length_filter_le _ _) (by rw [List.length_take]; omega)
set_option maxRecDepth 100000 in
set_option maxHeartbeats 2000000 in
/-- disk.names' closure, over the names that begin with c. -/
theorem names1_in (n : Nat) (hn : 2 ≤ n) (l Bd Bb n₀ B : Nat) (a : Int) (A : Option Addr) (c : Nat) (l0 : List S41) (hl : l0.length ≤ 1048576) (w0 : World) (hn₀ : n₀ = w0.heap.size) (hC : Kd.C k41 w0 A l0.length l0) (J Jx : List ByteArray → World → Prop) (hJ : AbidesFrom B J)
    (hY : ∀ pre x W, J pre W → pre.length < l0.length → YieldAt Fence.wide (n - 1) Tryd.prog l #[.string x] W fun e W' =>
      (e = .returned (.bool true) ∧ J (pre ++ [x]) W' ∧ KeepsB n₀ Bb W W') ∨ (e = .returned (.bool false) ∧ Jx (pre ++ [x]) W'))
    (W : World) (hW : Below n₀ w0 W) (hBd : W.cell? ⟨Bd, 1, none⟩ = some (.slice A l0.length c)) (hBb : W.heap[Bb]? = some (.cells #[.string ⟨#[99]⟩] 9 (0, 0))) (h0 : J [] W) :
    CallsIn Fence.wide n Tryd.prog 32 #[.func (.yield l) #[] #[], .pointer (some ⟨Bd, 0, none⟩), .pointer (some ⟨Bb, 0, none⟩)] W fun e W' => (∃ v, e = .returned v) ∧
      ((∃ ys, ys = beg l0 l0.length ∧ J ys W') ∨ (∃ pre, True ∧ Jx pre W')) := by
  refine callsIn_of_wp Tryd.func32 rfl trivial ?_ rfl
  simp only [Tryd.ntmps32, List.size_toArray, List.length_cons, List.length_nil, Nat.reduceAdd, Nat.reduceSub, Array.replicate_succ, Array.replicate_zero, List.push_toArray, List.append_toArray, List.nil_append, List.cons_append]
  have HC := Lib.hid hC
  have HBb := Lib.hid hBb
  clear hC hBb
  gi_wp2
  gi_loopw [9] (fun i wr => ∃ k : Nat, k ≤ l0.length ∧ i = .int .i64 k ∧ J (beg l0 k) wr ∧ Below n₀ W wr ∧ wr.heap[Bb]? = W.heap[Bb]?)
    (fun i _ => l0.length - (intOf i).toNat)
  case atStart => exact ⟨0, Nat.zero_le _, rfl, h0, Below.refl _ _, rfl⟩
  case round =>
    obtain ⟨k, hk, rfl, hJs, hnx, hbb⟩ := hrel
    have hcb : wr.cell? ⟨Bb, 0, none⟩ = some (.string ⟨#[99]⟩) := by simp [World.cell?, hbb, HBb.out]
    have HBB := Lib.hid hbb
    clear hbb
    by_cases hlt : k < l0.length
    · obtain ⟨ad, rfl, hx0, hx1, hx2⟩ := at_T41 HC.out (k : Int) (by omega) (by omega)
      rw [Int.toNat_natCast] at hx0 hx1 hx2
      have hbl : ∀ (p : Addr) (v : Value), w0.cell? p = some v → wr.cell? p = some v := fun p v h => by
        have hlt0 : p.block < n₀ := by rw [hn₀]; exact World.block_lt_of_cell? w0 _ h
        exact (hnx.cell hlt0).trans ((hW.cell hlt0).trans h)
      replace hx0 := hbl _ _ hx0
      replace hx1 := hbl _ _ hx1
      replace hx2 := hbl _ _ hx2
      clear hbl
      obtain ⟨x, hx⟩ : ∃ x, rd_T41 l0 (k : Int) = x := ⟨_, rfl⟩
      rw [hx] at hx0 hx1 hx2
      have hJ2 : J (beg l0 k) (wr.alloc (.cells #[.string x.f0, .string x.f1, .string x.f2] 41)) := hJ _ _ _ none hJs (World.grownBy_alloc wr _ none) (by simp)
      obtain ⟨fn, tmps, assign, body, hy, hR⟩ := hY _ x.f0 (wr.alloc (.cells #[.string x.f0, .string x.f1, .string x.f2] 41)) hJ2 (Nat.lt_of_le_of_lt (beg_len l0 k) hlt)
      have HX := Lib.hid hx
      have HN := Lib.hid hnx
      have hcb2 : (wr.alloc (.cells #[.string x.f0, .string x.f1, .string x.f2] 41)).cell? ⟨Bb, 0, none⟩ = some (.string ⟨#[99]⟩) := by rw [World.cell?_alloc_lt _ _ _ (World.block_lt_of_cell? wr _ hcb)]; exact hcb
      have HJ2 := Lib.hid hJ2
      clear hx hnx hJ2 hJs
      gi_wp2_with fail
      refine ⟨trivial, fun _ => by omega, (callsIn_wide.2 (prefix_calls x.f0 _)).mono ?_⟩
      rintro e w' ⟨rfl, rfl⟩
      have hlb : Bb < wr.heap.size := World.block_lt_of_cell? wr _ hcb
      have hsz : n₀ ≤ wr.heap.size := by rw [hn₀]; exact Nat.le_trans hW.size HN.out.size
      cases hh : hasC x.f0 with
      | false =>
        have hrel : k + 1 ≤ l0.length ∧ J (beg l0 (k + 1)) (wr.alloc (.cells #[.string x.f0, .string x.f1, .string x.f2] 41)) ∧ Below n₀ W (wr.alloc (.cells #[.string x.f0, .string x.f1, .string x.f2] 41)) ∧ (wr.alloc (.cells #[.string x.f0, .string x.f1, .string x.f2] 41)).heap[Bb]? = W.heap[Bb]? :=
          ⟨by omega, by rw [beg_succ l0 k hlt, HX.out, if_neg (by rw [hh]; decide), List.append_nil]; exact HJ2.out, HN.out.alloc hsz _, by rw [heap_alloc_old _ _ hlb]; exact HBB.out⟩
        have HREL := Lib.hid hrel
        clear hrel
        gi_wp2
        refine ⟨(fun _ hf => nomatch hf), ?_⟩
        gi_wp2
        go_roundw
        case rel => exact ⟨k + 1, HREL.out.1, by simp, HREL.out.2⟩
        case measure => simp [intOf]; omega
      | true =>
        gi_wp2
        refine ⟨fun _ => by omega, hR.mono ?_⟩
        rintro e W3 (⟨rfl, hJ3, hk3⟩ | ⟨rfl, hJx3⟩)
        · have hrel : k + 1 ≤ l0.length ∧ J (beg l0 (k + 1)) W3 ∧ Below n₀ W W3 ∧ W3.heap[Bb]? = W.heap[Bb]? :=
            ⟨by omega, by rw [beg_succ l0 k hlt, HX.out, if_pos hh]; exact hJ3, (HN.out.alloc hsz _).trans hk3.1, by rw [hk3.2, heap_alloc_old _ _ hlb]; exact HBB.out⟩
          have HREL := Lib.hid hrel
          clear hrel hJ3 hk3
          gi_wp2
          go_roundw
          case rel => exact ⟨k + 1, HREL.out.1, by simp, HREL.out.2⟩
          case measure => simp [intOf]; omega
        · gi_wp2
          refine bodyPost_ret (results_none rfl _ _ _) rfl ?_
          exact ⟨⟨_, rfl⟩, .inr ⟨_, trivial, hJx3⟩⟩
    · obtain rfl : k = l0.length := by omega
      gi_wp2
      go_end0
      exact ⟨⟨_, rfl⟩, .inl ⟨_, rfl, hJs⟩⟩
theorem keepsB_t {n B : Nat} {X Y Z : World} (h : KeepsB n B X Y) (k : KeepsB n B Y Z) : KeepsB n B X Z := ⟨h.1.trans k.1, k.2.trans h.2⟩
theorem keepsB_b {n B : Nat} {w : World} (hn : n ≤ w.heap.size) (hB : B < w.heap.size) (W : World) (l : Nat) (o o' : Obj) (hl : w.heap.size ≤ l) (h : W.heap[l]? = some o) (h1 : o.isCells = false) (h2 : o.isWalk = false) : KeepsB n B W (W.putObj l o') :=
  ⟨belowK_b hn W l o o' hl h h1 h2, (grownBy_putObj' W l o').block B (by have := (Array.getElem?_eq_some_iff.1 h).1; omega) (fun e => by injection e with e; omega)⟩
theorem names_stops (n : Nat) (hn : 2 ≤ n) (Bd Bb n₀ : Nat) (a : Int) (A : Option Addr) (c : Nat) (l0 : List S41) (hl : l0.length ≤ 1048576) (w0 : World) (hn₀ : n₀ = w0.heap.size) (hC : Kd.C k41 w0 A l0.length l0) (w : World) (hw : Below n₀ w0 w)
    (hBd : w.heap[Bd]? = some (.cells #[.int .i64 a, .slice A l0.length c] 29 (0, 0))) (hBb : w.heap[Bb]? = some (.cells #[.string ⟨#[99]⟩] 9 (0, 0))) :
    SeqStopsK Fence.wide n Tryd.prog 32 #[.pointer (some ⟨Bd, 0, none⟩), .pointer (some ⟨Bb, 0, none⟩)] (fun x : ByteArray => #[Value.string x]) (KeepsB n₀ Bb) (fun ys => ys = beg l0 l0.length) (fun _ => True) l0.length w := fun l J Jx W hW hJ _ hY h0 => by
  have h1 : W.heap[Bd]? = some (.cells #[.int .i64 a, .slice A l0.length c] 29 (0, 0)) := (hW.block Bd (Array.getElem?_eq_some_iff.1 hBd).1).trans hBd
  have h2 := (hW.block Bb (Array.getElem?_eq_some_iff.1 hBb).1).trans hBb
  exact names1_in n hn l Bd Bb n₀ W.heap.size a A c l0 hl w0 hn₀ hC J Jx hJ hY W (hw.trans (hW.mono (by rw [hn₀]; exact hw.size))) (by simp [World.cell?, h1]) h2 h0
theorem R_strings {W : World} {base : Nat} {v : Value} {xs : List ByteArray} (h : W.ownsRow base 9 1 v xs.length (xs.map Value.string)) : Kd.R Kd.string 9 W base (fun _ => True) v xs := by
  refine ⟨fun _ _ => trivial, xs.map Value.string, h, ⟨by rw [List.length_map]; exact (Nat.mul_one _).symm, fun j p hj => ?_⟩⟩
  show (((xs.map Value.string).drop (j * 1)).take 1) = [Value.string p]
  have hlt := (List.getElem?_eq_some_iff.1 hj).1
  rw [Nat.mul_one, List.drop_eq_getElem_cons (by simpa using hlt)]
  simp only [List.take_succ_cons, List.take_zero, List.getElem_map]
  rw [List.getElem?_eq_getElem hlt] at hj
  injection hj with hj
  rw [hj]
theorem info9 : (Tryd.prog.info? 9).map (fun i => (i.zero, i.size, i.bytes)) = some (some (.string ⟨#[]⟩), 1, 16) := by kernel_rfl
set_option maxRecDepth 100000 in
set_option maxHeartbeats 4000000 in
/-- disk.List of the names that begin with c. -/
theorem list_in (n : Nat) (hn : 5 ≤ n) (a : Int) (A : Option Addr) (c : Nat) (l0 : List S41) (hl : l0.length ≤ 1048576) (w : World) (hC : Kd.C k41 w A l0.length l0) :
    CallsIn Fence.wide n Tryd.prog 15 #[.agg #[.int .i64 a, .slice A l0.length c], .string ⟨#[99]⟩] w fun e W' => ∃ v, e = .returned v ∧ Kd.R Kd.string 9 W' w.heap.size (fun _ => True) v (beg l0 l0.length) ∧ Below w.heap.size w W' := by
  have h1 : 1 ≤ n := by omega
  refine callsIn_of_wp_marks Tryd.func15 rfl trivial ?_ rfl
  simp only [Tryd.ntmps15, List.size_toArray, List.length_cons, List.length_nil, Nat.reduceAdd, Nat.reduceSub, Array.replicate_succ, Array.replicate_zero, List.push_toArray, List.append_toArray, List.nil_append, List.cons_append]
  have HC := Lib.hid hC
  clear hC
  gi_wp2_with fail
  refine ⟨trivial, (callsIn_wide.2 (names_calls _ _ _ _ _ _)).mono ?_⟩
  rintro e w' ⟨rfl, rfl⟩
  gi_wp2_with fail
  obtain ⟨i0, hi, hz0, hz1, hz2⟩ := info_parts info9
  obtain ⟨Wa, hWa⟩ : ∃ Wa, w.alloc (.cells #[.int .i64 a, .slice A l0.length c] 29) = Wa := ⟨_, rfl⟩
  have hsa : Wa.heap.size = w.heap.size + 1 := by rw [← hWa]; simp
  have hba : Below w.heap.size w Wa := by rw [← hWa]; exact below_alloc (Below.refl _ _) _
  rw [hWa]
  clear hWa
  have bO0 := Boxed.new Wa 46 (.slice none 0 0)
  obtain ⟨Wb, hWb⟩ : ∃ Wb, Wa.alloc (.cells #[.slice none 0 0] 46) = Wb := ⟨_, rfl⟩
  have hsb : Wb.heap.size = w.heap.size + 2 := by rw [← hWb]; simp [hsa]
  have hbb : Below w.heap.size w Wb := by rw [← hWb]; exact hba.alloc (by omega) _
  rw [hWb] at bO0 ⊢
  clear hWb
  rw [hsa] at bO0
  have bD0 : (Wb.alloc (.cells #[.int .i64 a, .slice A l0.length c] 29)).heap[w.heap.size + 2]? = some (.cells #[.int .i64 a, .slice A l0.length c] 29 (0, 0)) := by rw [← hsb]; exact heap_alloc_new Wb _
  obtain ⟨Wc, hWc⟩ : ∃ Wc, Wb.alloc (.cells #[.int .i64 a, .slice A l0.length c] 29) = Wc := ⟨_, rfl⟩
  have hsc : Wc.heap.size = w.heap.size + 3 := by rw [← hWc]; simp [hsb]
  have hbc : Below w.heap.size w Wc := by rw [← hWc]; exact hbb.alloc (by omega) _
  have bO1 : Boxed Wc (w.heap.size + 1) 46 (.slice none 0 0) := by rw [← hWc]; exact bO0.alloc _
  rw [hWc] at bD0 ⊢
  clear hWc bO0
  have bB0 := Boxed.new Wc 9 (.string ⟨#[99]⟩)
  obtain ⟨W0, hW0⟩ : ∃ W0, Wc.alloc (.cells #[.string ⟨#[99]⟩] 9) = W0 := ⟨_, rfl⟩
  have hs0 : W0.heap.size = w.heap.size + 4 := by rw [← hW0]; simp [hsc]
  have hb0 : Below w.heap.size w W0 := by rw [← hW0]; exact hbc.alloc (by omega) _
  have bO : Boxed W0 (w.heap.size + 1) 46 (.slice none 0 0) := by rw [← hW0]; exact bO1.alloc _
  have bD : W0.heap[w.heap.size + 2]? = some (.cells #[.int .i64 a, .slice A l0.length c] 29 (0, 0)) := by rw [← hW0, heap_alloc_old _ _ (by omega)]; exact bD0
  have bB : W0.heap[w.heap.size + 3]? = some (.cells #[.string ⟨#[99]⟩] 9 (0, 0)) := by rw [hW0, hsc] at bB0; exact bB0
  rw [hW0, show w.heap.size + 1 + 1 + 1 = w.heap.size + 3 from rfl, show w.heap.size + 1 + 1 = w.heap.size + 2 from rfl]
  clear hW0 bB0 bD0 bO1
  refine wpIn_rangeFunc_ownG rfl h1 (gf := 32) (lb := #[.pointer (some ⟨w.heap.size + 2, 0, none⟩), .pointer (some ⟨w.heap.size + 3, 0, none⟩)]) rfl trivial (enters_of Tryd.func32 (by kernel_rfl) rfl)
    (names_stops (n - 1) (by omega) (w.heap.size + 2) (w.heap.size + 3) w.heap.size a A c l0 hl w rfl HC.out W0 hb0 bD bB) keepsB_t (keepsB_b (by omega) (by omega)) (Below.refl _ _) (fun _ => rfl)
    (fun pre W => (∃ v, Boxed W (w.heap.size + 1) 46 v ∧ W.ownsRow (w.heap.size + 4) 9 1 v pre.length (pre.map Value.string) ∧ True) ∧ (Below w.heap.size w W ∧ w.heap.size + 4 ≤ W.heap.size))
    (fun _ _ _ => False)
    (OwnFrom.and (Own.from (holdsRow_own (w.heap.size + 4) (w.heap.size + 1) 46 9 1 (fun pre : List ByteArray => pre.length) (fun pre => pre.map Value.string) (fun _ _ => True)) _) (OwnFrom.and (ownFrom_below (Nat.le_refl _) (by omega)) (fun _ _ _ _ hs hg _ => Nat.le_trans hs hg.size)))
    (fun _ _ _ _ _ hs _ _ => hs)
    ⟨⟨_, bO, World.ownsRow_nil _ _ _ _, trivial⟩, hb0, by omega⟩
    (fun x => { tmps := #[.agg #[.int .i64 a, .slice A l0.length c], .string ⟨#[99]⟩, .pointer (some ⟨w.heap.size, 0, none⟩), undef, .slice none 0 0, .pointer (some ⟨w.heap.size + 1, 0, none⟩), .string x, .agg #[.int .i64 a, .slice A l0.length c], .string ⟨#[99]⟩, .func (.func 32) #[] #[.pointer (some ⟨w.heap.size + 2, 0, none⟩), .pointer (some ⟨w.heap.size + 3, 0, none⟩)], .string x, undef, undef, undef, undef, undef], defers := [] }) ?assign ?body ?done ?stop
  case assign =>
    intro l x W K hK
    gi_wp2
    exact hK
  case body =>
    rintro l pre x W ⟨⟨v, hv, hrow, _⟩, hB, hsz⟩ hlen
    have hc0 := hv.cell
    have hown0 : W.ownsRow w.heap.size 9 1 v pre.length (pre.map Value.string) := own_weaken hrow (by omega)
    have hm1 : pre.length + 1 ≤ maxLen := by unfold maxLen; omega
    have hlen2 : pre.length < 1048576 := by omega
    have hfin : ∀ v' w1, w1.ownsRow (w.heap.size + 4) 9 1 v' (pre.length + 1) (pre.map Value.string ++ [Value.string x]) → (W.alloc (.cells #[.string x] 9)).grownBy w1 v.ownBlock →
        Boxed w1 (w.heap.size + 1) 46 v ∧ KeepsFrom W0.heap.size W (w1.setCell ⟨w.heap.size + 1, 0, none⟩ v') ∧ KeepsB w.heap.size (w.heap.size + 3) W (w1.setCell ⟨w.heap.size + 1, 0, none⟩ v') ∧
        (∃ v2, Boxed (w1.setCell ⟨w.heap.size + 1, 0, none⟩ v') (w.heap.size + 1) 46 v2 ∧ (w1.setCell ⟨w.heap.size + 1, 0, none⟩ v').ownsRow (w.heap.size + 4) 9 1 v2 (pre ++ [x]).length ((pre ++ [x]).map Value.string) ∧ True) ∧ Below w.heap.size w (w1.setCell ⟨w.heap.size + 1, 0, none⟩ v') ∧ w.heap.size + 4 ≤ (w1.setCell ⟨w.heap.size + 1, 0, none⟩ v').heap.size := by
      intro v' w1 hown' hgrow
      have hown1 : w1.ownsRow w.heap.size 9 1 v' (pre.length + 1) (pre.map Value.string ++ [Value.string x]) := own_weaken hown' (by omega)
      obtain ⟨hv1, hv2, _, hk2, hb2⟩ := hv.appended (by decide) hown0 (by omega) (by omega) hown1 hgrow
      have hnb : some (w.heap.size + 3) ≠ v.ownBlock := by
        intro he
        have := own_base hrow (w.heap.size + 3) he.symm
        omega
      have hbk : (w1.setCell ⟨w.heap.size + 1, 0, none⟩ v').heap[w.heap.size + 3]? = W.heap[w.heap.size + 3]? := by
        rw [Below.heap_setCell _ _ _ _ (by show w.heap.size + 3 ≠ w.heap.size + 1; omega), hgrow.block _ (by simp; omega) hnb, heap_alloc_old _ _ (by omega)]
      have hsz2 : (w1.setCell ⟨w.heap.size + 1, 0, none⟩ v').heap.size = w1.heap.size := by simp
      have hsz3 : W.heap.size + 1 ≤ w1.heap.size := by have := hgrow.size; simpa using this
      refine ⟨hv1, hk2.from _, ⟨hb2, hbk⟩, ⟨v', hv2, ?_, trivial⟩, hB.trans hb2, by omega⟩
      rw [List.length_append, List.map_append]
      exact hown'.kept (grownBy_setCell' w1 _ v') (.inr (hv1.not_row (by decide) hown').symm)
    have HF := Lib.hid hfin
    have HRW := Lib.hid hrow
    have HB := Lib.hid hB
    clear hfin hrow hown0 hB
    gi_wp2_with (gi_at_builtin; refine wpListIn_append_own _ rfl _ _ 46 rfl (w.heap.size + 4) 9 i0 (.string ⟨#[]⟩) 1 16 Tryd.underlying46 hi hz0 hz1 hz2 rfl (by decide) _ _ _ rfl (HRW.out.alloc _) ⟨W.heap.size, 0, none⟩ 1 1 [.string x] rfl rfl (cell_one_new _ _ _) (by simp [Value.oneCell']) (by omega) (by omega) (by simp; omega) ?_; intro v' w1 hown' hgrow _; obtain ⟨g', cap', rfl⟩ := ownsRow_succ hown'; have hc1 := (HF.out _ _ hown' hgrow).1.cell; have hf1 := (HF.out _ _ hown' hgrow).1.frozen)
    exact (HF.out _ _ hown' hgrow).2
  case done =>
    rintro D ys W hD rfl ⟨⟨v, hv, hrow, _⟩, hB, hsz⟩ hK
    have hc0 := hv.cell
    have hR : Kd.R Kd.string 9 (W.putObj D (.deferred none)) w.heap.size (fun _ => True) v (beg l0 l0.length) := R_strings (own_weaken (ownsRow_putObj hrow _ hK rfl) (by omega))
    have hBel : Below w.heap.size w (W.putObj D (.deferred none)) := hB.trans (belowK_b (w := w) (Nat.le_refl _) W D _ _ (by omega) hK rfl rfl)
    obtain ⟨A1, c1, rfl⟩ := Kd.R_slice hR
    have HR := Lib.hid hR
    clear hR hrow
    gi_wp2
    refine ⟨by simp, .inl ⟨_, _, rfl, run_takeDeferred hK, ?_⟩⟩
    exact ⟨.slice A1 (beg l0 l0.length).length c1, by simp [results, Tryd.results15, go_sem], _, rfl, HR.out, hBel⟩
  case stop =>
    rintro D c pre W _ _ h _
    exact h.elim
/-- disk.List, of the names that begin with c. -/
def disk_List.f (a0_0 : Int) (l0_1 : List (S41)) (a1 : ByteArray) : Option (List ByteArray) := if a1 = ⟨#[99]⟩ ∧ l0_1.length ≤ 1048576 then some (beg l0_1 l0_1.length) else none
theorem disk_List.calls (a0_0 : Int) (P0_1_ : Nat → Prop) (A0_1 : Option Addr) (c0_1 : Nat) (l0_1 : List (S41)) (a1 : ByteArray) (r : List ByteArray) (w : World) (hs0_1 : Kd.V k41 41 w w.heap.size (fun k_ => P0_1_ k_) (.slice A0_1 l0_1.length c0_1) l0_1) (h : disk_List.f a0_0 l0_1 a1 = some r) :
    Calls Tryd.prog 15 #[.agg #[.int .i64 a0_0, .slice A0_1 l0_1.length c0_1], .string a1] w fun e w' => ∃ v0_ : Value, e = .returned (v0_) ∧ Kd.V Kd.string 9 w' w.heap.size (fun k_ => (P0_1_ k_ ∨ w.heap.size ≤ k_)) v0_ r ∧ Below w.heap.size w w' := by
  unfold disk_List.f at h
  split at h
  · rename_i hh
    obtain ⟨rfl, hl⟩ := hh
    simp only [Option.some.injEq] at h
    subst h
    have h0 := Kd.V_at hs0_1
    refine (callsIn_wide.1 (list_in 5 (Nat.le_refl _) a0_0 A0_1 c0_1 l0_1 hl w (Kd.F_now h0.2.2))).mono ?_
    rintro e w' ⟨v, rfl, hR, hb⟩
    refine ⟨v, rfl, ?_, hb⟩
    obtain ⟨A, c, rfl, hc, _⟩ := Kd.R_reads hR
    exact ⟨A, c, rfl, hc, Kd.F_mono (Kd.R_F (Kd.R_bound hR)) (fun k hk => .inr hk.2.1)⟩
  · cases h
end Go.Proofs.YtbpobnlkfpjijaaDoorR.Pr
end
-- Ko
section
namespace Go.Proofs.YtbpobnlkfpjijaaDoorR
open Go.RowKit Go.Shelf Go.Sort
set_option linter.unusedVariables false
set_option linter.unusedSimpArgs false
theorem dd_lt {u : Nat} (h : u < 10) : Lib.decDigits u = [UInt8.ofNat (48 + u)] := by rw [Lib.decDigits, dif_pos h]
theorem dd_ge {u : Nat} (h : ¬ u < 10) : Lib.decDigits u = Lib.decDigits (u / 10) ++ [UInt8.ofNat (48 + u % 10)] := by
  conv => lhs; rw [Lib.decDigits, dif_neg h]
theorem dd_pos (u : Nat) : 0 < (Lib.decDigits u).length := by
  by_cases h : u < 10
  · rw [dd_lt h]; simp
  · rw [dd_ge h]; simp
theorem ofNat_inj {a b : Nat} (ha : a < 256) (hb : b < 256) (h : UInt8.ofNat a = UInt8.ofNat b) : a = b := by
  have := congrArg UInt8.toNat h
  simp [UInt8.toNat_ofNat'] at this
  omega
theorem dd_inj : ∀ (n u v : Nat), u < n → Lib.decDigits u = Lib.decDigits v → u = v
  | 0, u, v, hn, _ => by omega
  | n + 1, u, v, hn, h => by
    by_cases hu : u < 10 <;> by_cases hv : v < 10
    · rw [dd_lt hu, dd_lt hv] at h
      injection h with h
      have := ofNat_inj (by omega) (by omega) h
      omega
    · rw [dd_lt hu, dd_ge hv] at h
      have := congrArg List.length h
      have h2 := dd_pos (v / 10)
      simp only [List.length_append, List.length_singleton] at this
      omega
    · rw [dd_ge hu, dd_lt hv] at h
      have := congrArg List.length h
      have h2 := dd_pos (u / 10)
      simp only [List.length_append, List.length_singleton] at this
      omega
    · rw [dd_ge hu, dd_ge hv] at h
      obtain ⟨h1, h2⟩ := List.append_inj' h rfl
      have h3 := dd_inj n (u / 10) (v / 10) (by omega) h1
      injection h2 with h2
      have := ofNat_inj (by omega) (by omega) h2
      omega
theorem dd_no45 : ∀ (n u : Nat), u < n → (45 : UInt8) ∉ Lib.decDigits u
  | 0, u, hn => by omega
  | n + 1, u, hn => by
    have hd : ∀ k, k < 10 → (45 : UInt8) ≠ UInt8.ofNat (48 + k) := by
      intro k hk he
      have := congrArg UInt8.toNat he
      simp [UInt8.toNat_ofNat'] at this
      omega
    by_cases h : u < 10
    · rw [dd_lt h]
      simp only [List.mem_singleton]
      exact hd u h
    · rw [dd_ge h]
      intro hm
      rcases List.mem_append.1 hm with hm | hm
      · exact dd_no45 n (u / 10) (by omega) hm
      · simp only [List.mem_singleton] at hm
        exact hd _ (by omega) hm
theorem cut45 : ∀ (a b r s : List UInt8), (45 : UInt8) ∉ a → (45 : UInt8) ∉ b → a ++ 45 :: r = b ++ 45 :: s → a = b ∧ r = s
  | [], [], r, s, _, _, h => by simpa using h
  | [], y :: b, r, s, _, hb, h => by
    simp at h
    exact absurd (by rw [h.1]; simp) hb
  | x :: a, [], r, s, ha, _, h => by
    simp at h
    exact absurd (by rw [← h.1]; simp) ha
  | x :: a, y :: b, r, s, ha, hb, h => by
    simp at h
    obtain ⟨h1, h2⟩ := cut45 a b r s (fun hm => ha (by simp [hm])) (fun hm => hb (by simp [hm])) h.2
    exact ⟨by rw [h.1, h1], h2⟩
theorem itoa_dd {n : Int} (h : 0 ≤ n) : Lib.itoa n = Lib.decDigits n.toNat := by unfold Lib.itoa; rw [if_neg (by omega)]
theorem nameL_inj {a b c d : Int} (ha : 0 ≤ a) (hb : 0 ≤ b) (hc : 0 ≤ c) (hd : 0 ≤ d) (h : nameL a b = nameL c d) : a = c ∧ b = d := by
  unfold nameL at h
  rw [itoa_dd ha, itoa_dd hb, itoa_dd hc, itoa_dd hd] at h
  simp only [List.cons_append, List.nil_append, List.cons.injEq, true_and] at h
  obtain ⟨h1, h2⟩ := cut45 _ _ _ _ (dd_no45 _ _ (Nat.lt_succ_self _)) (dd_no45 _ _ (Nat.lt_succ_self _)) h
  have e1 := dd_inj _ _ _ (Nat.lt_succ_self _) h1
  have e2 := dd_inj _ _ _ (Nat.lt_succ_self _) h2
  omega
theorem nameS_toList (a b : Int) : (nameS a b).toList = nameL a b := by rw [ByteArray.toList_eq]; simp [nameS]
theorem name816 : nameS 8 16 = ⟨#[99, 56, 45, 49, 54]⟩ := by
  have h : nameL 8 16 = [99, 56, 45, 49, 54] := by
    unfold nameL
    rw [itoa_dd (by decide), itoa_dd (by decide)]
    have e1 : Lib.decDigits (8 : Int).toNat = [56] := by rw [dd_lt (by decide)]; rfl
    have e2 : Lib.decDigits (16 : Int).toNat = [49, 54] := by rw [dd_ge (by decide), dd_lt (by decide)]; rfl
    rw [e1, e2]
    rfl
  unfold nameS
  rw [h]
set_option maxHeartbeats 1000000 in
theorem shown_calls (w : World) (ht : Tb w) : Calls Tryd.prog 5 #[] w fun e w' => e = .returned (.bool true) ∧ Below w.heap.size w w' := by
  go_enter Tryd.func5, Tryd.ntmps5
  go_wp2_with fail
  refine (name_calls 8 16 (by decide) (by decide) (by decide) (by decide) _ ht).mono ?_
  rw [name816]
  rintro e w' ⟨rfl, hb⟩
  go_wp2
  go_ret
  exact ⟨by first | rfl | simp [ByteArray.toList_eq], hb⟩
theorem nameS_size (a b : Int) : 0 < (nameS a b).size := by
  show 0 < (nameS a b).data.size
  simp [nameS, nameL]
theorem hold2_step {a b c d : Int} {w W W1 : World} (h : W.cell? ⟨w.heap.size, 0, none⟩ = some (.int .i64 a) ∧ W.cell? ⟨w.heap.size, 1, none⟩ = some (.int .i64 b) ∧ W.cell? ⟨w.heap.size + 1, 0, none⟩ = some (.int .i64 c) ∧ W.cell? ⟨w.heap.size + 1, 1, none⟩ = some (.int .i64 d) ∧ Tb W ∧ Below w.heap.size w W) (hb : Below W.heap.size W W1) :
    W1.cell? ⟨w.heap.size, 0, none⟩ = some (.int .i64 a) ∧ W1.cell? ⟨w.heap.size, 1, none⟩ = some (.int .i64 b) ∧ W1.cell? ⟨w.heap.size + 1, 0, none⟩ = some (.int .i64 c) ∧ W1.cell? ⟨w.heap.size + 1, 1, none⟩ = some (.int .i64 d) ∧ Tb W1 ∧ Below w.heap.size w W1 := by
  obtain ⟨h1, h2, h3, h4, h5, h6⟩ := h
  exact ⟨(hb.cell (World.block_lt_of_cell? W _ h1)).trans h1, (hb.cell (World.block_lt_of_cell? W _ h2)).trans h2, (hb.cell (World.block_lt_of_cell? W _ h3)).trans h3, (hb.cell (World.block_lt_of_cell? W _ h4)).trans h4, tb_below h5 hb, h6.trans (hb.mono h6.size)⟩
theorem hold2_tb {p q r s t : Prop} {W : World} (h : p ∧ q ∧ r ∧ s ∧ Tb W ∧ t) : Tb W := h.2.2.2.2.1
theorem hold2_bel {p q r s t : Prop} {B : Nat} {w W : World} (h : p ∧ q ∧ r ∧ s ∧ t ∧ Below B w W) : Below B w W := h.2.2.2.2.2
set_option maxRecDepth 100000 in
set_option maxHeartbeats 4000000 in
theorem order_calls (a b c d : Int) (ha : -9223372036854775808 ≤ a ∧ a ≤ 9223372036854775807) (hb : -9223372036854775808 ≤ b ∧ b ≤ 9223372036854775807) (hc : -9223372036854775808 ≤ c ∧ c ≤ 9223372036854775807) (hd : -9223372036854775808 ≤ d ∧ d ≤ 9223372036854775807) (w : World) (ht : Tb w) :
    Calls Tryd.prog 3 #[.agg #[.int .i64 a, .int .i64 b], .agg #[.int .i64 c, .int .i64 d]] w fun e w' => e = .returned (.bool true) ∧ Below w.heap.size w w' := by
  obtain ⟨W, hW⟩ : ∃ W, (w.alloc (.cells #[.int .i64 a, .int .i64 b] 23)).alloc (.cells #[.int .i64 c, .int .i64 d] 23) = W := ⟨_, rfl⟩
  have hB0 : Below w.heap.size w W := by rw [← hW]; exact ((Below.refl _ _).alloc (Nat.le_refl _) _).alloc (by simp) _
  have hc0 : W.cell? ⟨w.heap.size, 0, none⟩ = some (.int .i64 a) := by subst hW; go_simp
  have hc1 : W.cell? ⟨w.heap.size, 1, none⟩ = some (.int .i64 b) := by subst hW; go_simp
  have hc2 : W.cell? ⟨w.heap.size + 1, 0, none⟩ = some (.int .i64 c) := by subst hW; go_simp
  have hc3 : W.cell? ⟨w.heap.size + 1, 1, none⟩ = some (.int .i64 d) := by subst hW; go_simp
  have hT := tb_below ht hB0
  by_cases ha0 : a < 0
  · go_enter Tryd.func3, Tryd.ntmps3
    go_wp2_with fail
    clear hW
    refine (shown_calls W hT).mono ?_
    rintro e w1 ⟨rfl, hb1⟩
    have hq0 := (hb1.cell (World.block_lt_of_cell? _ _ hc0)).trans hc0
    have hBe := Lib.hid (hB0.trans (hb1.mono hB0.size))
    clear hb1 hB0
    go_wp2
    go_ret
    exact ⟨rfl, hBe.out⟩
  · by_cases hb0 : b < 0
    · go_enter Tryd.func3, Tryd.ntmps3
      go_wp2_with fail
      clear hW
      refine (shown_calls W hT).mono ?_
      rintro e w1 ⟨rfl, hb1⟩
      have hq0 := (hb1.cell (World.block_lt_of_cell? _ _ hc0)).trans hc0
      have hq1 := (hb1.cell (World.block_lt_of_cell? _ _ hc1)).trans hc1
      have hBe := Lib.hid (hB0.trans (hb1.mono hB0.size))
      clear hb1 hB0
      go_wp2
      go_ret
      exact ⟨rfl, hBe.out⟩
    · by_cases hcc : c < 0
      · go_enter Tryd.func3, Tryd.ntmps3
        go_wp2_with fail
        clear hW
        refine (shown_calls W hT).mono ?_
        rintro e w1 ⟨rfl, hb1⟩
        have hq0 := (hb1.cell (World.block_lt_of_cell? _ _ hc0)).trans hc0
        have hq1 := (hb1.cell (World.block_lt_of_cell? _ _ hc1)).trans hc1
        have hq2 := (hb1.cell (World.block_lt_of_cell? _ _ hc2)).trans hc2
        have hBe := Lib.hid (hB0.trans (hb1.mono hB0.size))
        clear hb1 hB0
        go_wp2
        go_ret
        exact ⟨rfl, hBe.out⟩
      · by_cases hdd : d < 0
        · go_enter Tryd.func3, Tryd.ntmps3
          go_wp2_with fail
          clear hW
          refine (shown_calls W hT).mono ?_
          rintro e w1 ⟨rfl, hb1⟩
          have hq0 := (hb1.cell (World.block_lt_of_cell? _ _ hc0)).trans hc0
          have hq1 := (hb1.cell (World.block_lt_of_cell? _ _ hc1)).trans hc1
          have hq2 := (hb1.cell (World.block_lt_of_cell? _ _ hc2)).trans hc2
          have hq3 := (hb1.cell (World.block_lt_of_cell? _ _ hc3)).trans hc3
          have hBe := Lib.hid (hB0.trans (hb1.mono hB0.size))
          clear hb1 hB0
          go_wp2
          go_ret
          exact ⟨rfl, hBe.out⟩
        · have hq1 : 0 ≤ a := by omega
          have hq2 : 0 ≤ b := by omega
          have hq3 : 0 ≤ c := by omega
          have hq4 : 0 ≤ d := by omega
          have hz1 : 0 < (nameS a b).size := nameS_size a b
          have hz2 : (0 : Int) < ((nameS a b).size : Int) := by omega
          have hz3 : ((nameS a b)[0]'hz1).toNat = 99 := rfl
          by_cases he : a = c ∧ b = d
          · obtain ⟨rfl, rfl⟩ := he
            go_enter Tryd.func3, Tryd.ntmps3
            go_wp2_with fail
            clear hW
            refine (shown_calls W hT).mono ?_
            rintro e w1 ⟨rfl, hb1⟩
            have hS := hold2_step ⟨hc0, hc1, hc2, hc3, hT, hB0⟩ hb1
            obtain ⟨e0, e1, e2, e3, e4, e5⟩ := hS
            clear hb1 hB0 hc0 hc1 hc2 hc3 hT
            go_wp2_with fail
            go_region_held3 (fun w' => w'.cell? ⟨w.heap.size, 0, none⟩ = some (.int .i64 a) ∧ w'.cell? ⟨w.heap.size, 1, none⟩ = some (.int .i64 b) ∧ w'.cell? ⟨w.heap.size + 1, 0, none⟩ = some (.int .i64 a) ∧ w'.cell? ⟨w.heap.size + 1, 1, none⟩ = some (.int .i64 b) ∧ Tb w' ∧ Below w.heap.size w w')
              (first | exact ⟨e0, e1, e2, e3, e4, e5.drew⟩ | assumption | exact hold2_step (by assumption) hb)
              (first | (go_at_call 6; refine (name_calls _ _ (by omega) (by omega) (by omega) (by omega) _ (by first | assumption | exact hold2_tb (by assumption))).mono ?_; rintro e w2 ⟨rfl, hb⟩))
            all_goals
              go_wp2
              go_ret
              exact ⟨rfl, hold2_bel (by assumption)⟩
          · have hne : ((nameS a b).toList == (nameS c d).toList) = false := by
              rw [beq_eq_false_iff_ne, nameS_toList, nameS_toList]
              exact fun h => he (nameL_inj hq1 hq2 hq3 hq4 h)
            by_cases hac : a = c
            · subst hac
              have hbd : ¬ b = d := fun h => he ⟨rfl, h⟩
              clear he
              go_enter Tryd.func3, Tryd.ntmps3
              go_wp2_with fail
              clear hW
              refine (shown_calls W hT).mono ?_
              rintro e w1 ⟨rfl, hb1⟩
              have hS := hold2_step ⟨hc0, hc1, hc2, hc3, hT, hB0⟩ hb1
              obtain ⟨e0, e1, e2, e3, e4, e5⟩ := hS
              clear hb1 hB0 hc0 hc1 hc2 hc3 hT
              go_wp2_with fail
              go_region_held3 (fun w' => w'.cell? ⟨w.heap.size, 0, none⟩ = some (.int .i64 a) ∧ w'.cell? ⟨w.heap.size, 1, none⟩ = some (.int .i64 b) ∧ w'.cell? ⟨w.heap.size + 1, 0, none⟩ = some (.int .i64 a) ∧ w'.cell? ⟨w.heap.size + 1, 1, none⟩ = some (.int .i64 d) ∧ Tb w' ∧ Below w.heap.size w w')
                (first | exact ⟨e0, e1, e2, e3, e4, e5.drew⟩ | assumption | exact hold2_step (by assumption) hb)
                (first | (go_at_call 6; refine (name_calls _ _ (by omega) (by omega) (by omega) (by omega) _ (by first | assumption | exact hold2_tb (by assumption))).mono ?_; rintro e w2 ⟨rfl, hb⟩))
              all_goals
                go_wp2
                go_ret
                exact ⟨rfl, hold2_bel (by assumption)⟩
            · clear he
              go_enter Tryd.func3, Tryd.ntmps3
              go_wp2_with fail
              clear hW
              refine (shown_calls W hT).mono ?_
              rintro e w1 ⟨rfl, hb1⟩
              have hS := hold2_step ⟨hc0, hc1, hc2, hc3, hT, hB0⟩ hb1
              obtain ⟨e0, e1, e2, e3, e4, e5⟩ := hS
              clear hb1 hB0 hc0 hc1 hc2 hc3 hT
              go_wp2_with fail
              go_region_held3 (fun w' => w'.cell? ⟨w.heap.size, 0, none⟩ = some (.int .i64 a) ∧ w'.cell? ⟨w.heap.size, 1, none⟩ = some (.int .i64 b) ∧ w'.cell? ⟨w.heap.size + 1, 0, none⟩ = some (.int .i64 c) ∧ w'.cell? ⟨w.heap.size + 1, 1, none⟩ = some (.int .i64 d) ∧ Tb w' ∧ Below w.heap.size w w')
                (first | exact ⟨e0, e1, e2, e3, e4, e5.drew⟩ | assumption | exact hold2_step (by assumption) hb)
                (first | (go_at_call 6; refine (name_calls _ _ (by omega) (by omega) (by omega) (by omega) _ (by first | assumption | exact hold2_tb (by assumption))).mono ?_; rintro e w2 ⟨rfl, hb⟩))
              all_goals
                go_wp2
                go_ret
                exact ⟨rfl, hold2_bel (by assumption)⟩
end Go.Proofs.YtbpobnlkfpjijaaDoorR
end
-- Kx
section
namespace Go.Proofs.YtbpobnlkfpjijaaDoorR.Pr
open Go.RowKit Go.Proofs.YtbpobnlkfpjijaaDoorRW.PrintWords Go.Proofs.YtbpobnlkfpjijaaDoorRW.PrintLast Go.Proofs.YtbpobnlkfpjijaaDoorRW.PrintMore
set_option linter.unusedVariables false
/-- keep.Name, of a range no end of which is below 0. -/
def keep_Name.f (a0_0 : Int) (a0_1 : Int) : Option (ByteArray) :=
  if (0 ≤ a0_0 ∧ a0_0 ≤ 9223372036854775807) ∧ (0 ≤ a0_1 ∧ a0_1 ≤ 9223372036854775807) then some (YtbpobnlkfpjijaaDoorR.nameS a0_0 a0_1) else none
theorem keep_Name.calls (a0_0 : Int) (a0_1 : Int) (r : ByteArray) (w : World) (hT : TbC w) (h : keep_Name.f a0_0 a0_1 = some r) :
    Calls Tryd.prog 6 #[.agg #[.int .i64 a0_0, .int .i64 a0_1]] w fun e w' => e = .returned (.string r) ∧ Below w.heap.size w w' := by
  unfold keep_Name.f at h
  split at h
  · rename_i hh
    injection h with h
    subst h
    exact YtbpobnlkfpjijaaDoorR.name_calls a0_0 a0_1 hh.1.1 hh.1.2 hh.2.1 hh.2.2 w hT.tb
  · cases h
/-- The document's example holds. -/
def tallysticklaw16_shown.f  : Option (Bool) := some true
theorem tallysticklaw16_shown.calls (r : Bool) (w : World) (hT : TbC w) (h : tallysticklaw16_shown.f  = some r) :
    Calls Tryd.prog 5 #[] w fun e w' => e = .returned (.bool r) ∧ Below w.heap.size w w' := by
  unfold tallysticklaw16_shown.f at h
  injection h with h
  subst h
  exact YtbpobnlkfpjijaaDoorR.shown_calls w hT.tb
end Go.Proofs.YtbpobnlkfpjijaaDoorR.Pr
end
-- Pr56
section
namespace Go.Proofs.YtbpobnlkfpjijaaDoorR.Pr
open Go.RowKit Go.Proofs.YtbpobnlkfpjijaaDoorRW.PrintWords Go.Proofs.YtbpobnlkfpjijaaDoorRW.PrintLast Go.Proofs.YtbpobnlkfpjijaaDoorRW.PrintMore
attribute [local go_sem] max2_int min2_int max_two min_two max_three min_three max_four min_four   -- for this text's walks alone
set_option linter.unusedVariables false
set_option linter.unusedSimpArgs false

attribute [local go_sem] Go.Proofs.Aid.cell_set_row
def keep_Find.l0 : Nat → List (S45) → List ByteArray → Int → Int → Int → List (S41) → Int → Int → Int → Option ((List (S45)))
 | 0, _, _, _, _, _, _, _, _, _ => none
 | k + 1, x5, x13, x14, x15, x175000, x175001, x176000, x176001, x176002 => if x15 < x14 then (if 0 ≤ x15 then (if x15 < (x13.length : Int) then ((disk_Read.f x175000 x175001 (rdOf ByteArray.empty x13 x15)).bind fun bt180 => ((crc_Of.f bt180.1 x176000 x176001 x176002).bind fun bt182 => (if bt182.2.2.2.2.2.2 = 0 then ((keep_Name.f bt182.1 bt182.2.1).bind fun t196 => (if t196.toList = (rdOf ByteArray.empty x13 x15).toList then (if x5.length < 1466015503701 then (keep_Find.l0 k (x5 ++ [(⟨(⟨bt182.1, bt182.2.1⟩ : S23), bt182.2.2.1, bt182.2.2.2.1, bt182.2.2.2.2.1, bt182.2.2.2.2.2.1⟩ : S45)]) x13 x14 (wrap64 (x15 + 1)) x175000 x175001 x176000 x176001 x176002) else (none)) else (keep_Find.l0 k x5 x13 x14 (wrap64 (x15 + 1)) x175000 x175001 x176000 x176001 x176002))) else (keep_Find.l0 k x5 x13 x14 (wrap64 (x15 + 1)) x175000 x175001 x176000 x176001 x176002)))) else (none)) else (none)) else (some x5)
def keep_Find.f (k : Nat) (a0_0 : Int) (l0_1 : List (S41)) (a1_0 : Int) (a1_1 : Int) (a1_2 : Int) : Option ((List (S45))) := (disk_List.f a0_0 l0_1 (⟨#[99]⟩ : ByteArray)).bind fun t176 => (keep_Find.l0 k ([] : List (S45)) t176 (t176.length : Int) 0 a0_0 l0_1 a1_0 a1_1 a1_2)
theorem keep_Find.mono_l : ∀ k, (∀ y0 y1 y2 y3 y4 y5 y6 y7 y8, LeO (keep_Find.l0 k y0 y1 y2 y3 y4 y5 y6 y7 y8) (keep_Find.l0 (k + 1) y0 y1 y2 y3 y4 y5 y6 y7 y8))
 | 0 => fun _ _ _ _ _ _ _ _ _ r h => by simp [keep_Find.l0] at h
 | k + 1 => by
  have ih0 := keep_Find.mono_l k
  intro y0 y1 y2 y3 y4 y5 y6 y7 y8
  unfold keep_Find.l0
  repeat' first
  | (with_reducible exact ih0 _ _ _ _ _ _ _ _ _)
  | (with_reducible exact LeO.refl _)
  | (with_reducible exact LeO.none _)
  | (with_reducible refine LeO.ite ?_ ?_)
  | (with_reducible refine LeO.bind ?_ (fun _ => ?_))
  | exact ih0 _ _ _ _ _ _ _ _ _
  | exact LeO.none _
  | refine LeO.ite ?_ ?_
  | refine LeO.bind ?_ (fun _ => ?_)
theorem keep_Find.mono : ∀ a0 a1 a2 a3 a4 k, LeO (keep_Find.f k a0 a1 a2 a3 a4) (keep_Find.f (k + 1) a0 a1 a2 a3 a4) := by
 intro a0 a1 a2 a3 a4 k
 have ih0 := keep_Find.mono_l k
 unfold keep_Find.f
 repeat' first
   | (with_reducible exact ih0 _ _ _ _ _ _ _ _ _)
   | (with_reducible exact LeO.refl _)
   | (with_reducible exact LeO.none _)
   | (with_reducible refine LeO.ite ?_ ?_)
   | (with_reducible refine LeO.bind ?_ (fun _ => ?_))
   | exact ih0 _ _ _ _ _ _ _ _ _
   | exact LeO.none _
   | refine LeO.ite ?_ ?_
   | refine LeO.bind ?_ (fun _ => ?_)
set_option maxHeartbeats 8000000 in
set_option maxRecDepth 100000 in
theorem keep_Find.calls (k : Nat) (a0_0 : Int) (P0_1_ : Nat → Prop) (A0_1 : Option Addr) (c0_1 : Nat) (l0_1 : List (S41)) (a1_0 : Int) (a1_1 : Int) (a1_2 : Int) (r : List (S45)) (w : World) (hT_w : TbC w) (hs0_1 : Kd.V k41 41 w w.heap.size (fun k_ => P0_1_ k_) (.slice A0_1 l0_1.length c0_1) l0_1) (h : keep_Find.f k a0_0 l0_1 a1_0 a1_1 a1_2 = some r) :
  Calls Tryd.prog 9 #[.agg #[.int .i64 a0_0, .slice A0_1 l0_1.length c0_1], .agg #[.int .i64 a1_0, .int .i64 a1_1, .int .i64 a1_2]] w fun e w' => ∃ v0_ : Value, e = .returned (v0_) ∧ Kd.N k45 45 w' w.heap.size (fun k_ => (P0_1_ k_ ∨ w.heap.size ≤ k_)) v0_ r ∧ Below w.heap.size w w' := by
 haveI := hT_w
 have hu29 := Tryd.underlying29
 have hu31 := Tryd.underlying31
 have hu45 := Tryd.underlying45
 have hu23 := Tryd.underlying23
 have HO0_1 := A_ (show Kd.V k41 41 w w.heap.size (fun k_ => (P0_1_ k_ ∨ w.heap.size ≤ k_)) (.slice A0_1 l0_1.length c0_1) l0_1 from Kd.V_mono hs0_1 (fun k_ hk => .inl hk)); have HB := A_ (Below.refl w.heap.size w)
 have H : ((disk_List.f a0_0 l0_1 (⟨#[99]⟩ : ByteArray)).bind fun t176 => (keep_Find.l0 k ([] : List (S45)) t176 (t176.length : Int) 0 a0_0 l0_1 a1_0 a1_1 a1_2)) = some r := h
 clear h
 replace H := Option.bind_eq_some_iff.mp H
 obtain ⟨t176, A30, H⟩ := H
 replace H : (keep_Find.l0 k ([] : List (S45)) t176 (t176.length : Int) 0 a0_0 l0_1 a1_0 a1_1 a1_2) = some r := H
 have A3 := A_ A30; clear A30
 have H' := A_ H
 clear H
 go_enter Tryd.func9, Tryd.ntmps9
 go_wp2_with (first | ((with_reducible refine gate_dst (N := 2) rfl ?_); refine box_event ?hg (N := 2) ?hd (cs := #[.int .i64 a0_0, .slice A0_1 l0_1.length c0_1]) (t := 29) ?hr ?_; (case hd => rfl); (case hg => rfl); (case hr => first | (go_simp; done) | (go_simp; rfl)); intro gb174 hg w4 hbox hb; replace HO0_1 := A_ (Kd.V_below (Kd.V_elderB (v_ HO0_1) gb174 (Nat.le_of_eq hg.symm)) hb); have BK174 := A_ hbox; have GW174 := A_ ((by rw [hg]; exact (below_size (hB_ w)) : w.heap.size ≤ gb174)); have GE174 := A_ ((by rw [hg]; exact (below_size (hB_ w)) : w.heap.size ≤ gb174)); replace HB := A_ (below_step (hB_ w) hb); clear hb hbox hg) | ((with_reducible refine gate_dst (N := 3) rfl ?_); refine box_event ?hg (N := 3) ?hd (cs := #[.int .i64 a1_0, .int .i64 a1_1, .int .i64 a1_2]) (t := 31) ?hr ?_; (case hd => rfl); (case hg => rfl); (case hr => first | (go_simp; done) | (go_simp; rfl)); intro gb175 hg w5 hbox hb; replace HO0_1 := A_ (Kd.V_below (Kd.V_elderB (v_ HO0_1) gb175 (Nat.le_of_eq hg.symm)) hb); have BK175 := A_ hbox; have GW175 := A_ ((by rw [hg]; exact (below_size (hB_ w)) : w.heap.size ≤ gb175)); have GE175 := A_ ((by rw [hg]; exact (below_size (hB_ w)) : w.heap.size ≤ gb175)); replace HB := A_ (below_step (hB_ w) hb); have NB174_175 := A_ ((by rw [hg]; exact Nat.ne_of_lt (blk_lt (g := gb174) (b_ BK174)) : gb174 ≠ gb175)); have NB175_174 := A_ ((by rw [hg]; exact Nat.ne_of_gt (blk_lt (g := gb174) (b_ BK174)) : gb175 ≠ gb174)); replace BK174 := A_ (blk_below (g := gb174) (b_ BK174) hb); clear hb hbox hg; have hnb6 := NB174_175.out; have hnc6 := NB175_174.out; obtain ⟨hcz7_0, hcz7_1, hfz7_0, hfz7_1⟩ := cf2_ BK174) | ((with_reducible refine gate_callee (f := 15) rfl ?_); refine goesL_ (some 13) rfl rfl Tryd.func15 (by kernel_rfl) rfl #[.agg #[.int .i64 a0_0, .slice A0_1 l0_1.length c0_1], .string (⟨#[99]⟩ : ByteArray)] rfl (by (try simp only [List.map_toArray, List.map_cons, List.map_nil]); first | done | rfl | (simp only [List.length_drop, List.length_take]; rfl)) ?_; (with_reducible refine (disk_List.calls a0_0 (fun k_ => (((P0_1_ k_ ∨ w.heap.size ≤ k_) ∧ k_ ≠ gb174) ∧ k_ ≠ gb175)) _ _ l0_1 (⟨#[99]⟩ : ByteArray) t176 _ ?side1 A3.out).mono ?_); (case side1 => exact HO0_1.out); rintro e w8 ⟨v177, rfl, ho0, hb⟩; refine ⟨_, rfl, ?_⟩; replace HO0_1 := A_ (Kd.V_below (v_ HO0_1) hb); have HO178 := A_ (Kd.V_lower (Kd.V_mono (ok' := fun k_ => (P0_1_ k_ ∨ w.heap.size ≤ k_) ∧ k_ ≠ gb174 ∧ k_ ≠ gb175) ho0 (fun k_ hk_ => ⟨Or.elim hk_ (fun hs_ => hs_.1.1) (fun hn_ => (.inr (Nat.le_trans (below_size (hB_ w)) hn_))), Or.elim hk_ (fun hs_ => hs_.1.2) (fun hn_ => (Kd.freshB (g := gb174) (b_ BK174) k_ hn_)), Or.elim hk_ (fun hs_ => hs_.2) (fun hn_ => (Kd.freshB (g := gb175) (b_ BK175) k_ hn_))⟩)) (below_size (hB_ w))); replace BK174 := A_ (blk_below (g := gb174) (b_ BK174) hb); replace BK175 := A_ (blk_below (g := gb175) (b_ BK175) hb); replace HB := A_ (below_step (hB_ w) hb); (try clear hb); (try clear hb2); (try clear hk); (try clear hi); (try clear ho0); obtain ⟨Ao9, co9, eo9⟩ := Kd.V_slice HO178.out; subst eo9))
 go_loopg [5, 15] k (fun kq v5 v15 w' => ∃ (x5_1 : List (S45)) (x15_1 : Int), v15 = .int .i64 x15_1 ∧ AsC (keep_Find.l0 kq x5_1 t176 (t176.length : Int) x15_1 a0_0 l0_1 a1_0 a1_1 a1_2 = some r) ∧ AsC (kq ≤ k) ∧ AsC (Kd.N k45 45 w' w.heap.size (fun k_ => (P0_1_ k_ ∨ w.heap.size ≤ k_) ∧ k_ ≠ gb174 ∧ k_ ≠ gb175) v5 x5_1) ∧ AsC (Kd.V Kd.string 9 w' w.heap.size (fun k_ => (P0_1_ k_ ∨ w.heap.size ≤ k_) ∧ some k_ ≠ (v5 : Value).ownBlock ∧ k_ ≠ gb174 ∧ k_ ≠ gb175) (.slice Ao9 t176.length co9) t176) ∧ AsC (Kd.V k41 41 w' w.heap.size (fun k_ => (P0_1_ k_ ∨ w.heap.size ≤ k_) ∧ some k_ ≠ (v5 : Value).ownBlock ∧ k_ ≠ gb174 ∧ k_ ≠ gb175) (.slice A0_1 l0_1.length c0_1) l0_1) ∧ AsC (w'.heap[gb174]? = some (.cells #[.int .i64 a0_0, (.slice A0_1 l0_1.length c0_1)] 29 (0, 0))) ∧ AsC (w'.heap[gb175]? = some (.cells #[.int .i64 a1_0, .int .i64 a1_1, .int .i64 a1_2] 31 (0, 0))) ∧ AsC (Below w.heap.size w w'))
 case atStart => exact ⟨(([] : List (S45))), (0), (by first | rfl | (simp; done) | (simp [*]; done)), H', ⟨Nat.le_refl _⟩, ⟨by first | exact Kd.S_nil _ _ _ _ _ | exact Kd.N_nil _ _ _ _ _ | exact Kd.V_nil _ _ _ _ _ | exact Kd.Q_nil _ _ _ _ _ | exact Kd.R_nil _ _ _ _ _⟩, ⟨Kd.V_mono (v_ HO178) (fun _ hk => ⟨hk.1, ⟨(by simp [Value.ownBlock]), ⟨hk.2.1, hk.2.2⟩⟩⟩)⟩, ⟨Kd.V_mono (v_ HO0_1) (fun _ hk => ⟨hk.1.1, ⟨(by simp [Value.ownBlock]), ⟨hk.1.2, hk.2⟩⟩⟩)⟩, ⟨b_ BK174⟩, ⟨b_ BK175⟩, ⟨hB_ w⟩⟩
 case round =>
  clear H'; try clear c1; try clear p2; try clear c6; try clear c9; try clear hcz7_0; try clear hcz7_1; try clear hfz7_0; try clear hfz7_1
  obtain ⟨x5_1, x15_1, rfl, HA, HK1, HO_5, HO_13, HO_175001, BK174, BK175, HB⟩ := hrel
  cases gk with
  | zero => exact absurd HA.out (by simp [keep_Find.l0])
  | succ k1 =>
   have H := HA.out; clear HA
   simp only [keep_Find.l0] at H
   by_cases c10 : x15_1 < (t176.length : Int)
   ·rw [if_pos c10] at H
    have c10b0 : decide (x15_1 < (t176.length : Int)) = true := decide_eq_true c10
    clear c10
    by_cases c11 : 0 ≤ x15_1
    ·rw [if_pos c11] at H
     have c11b0 : decide (0 ≤ x15_1) = true := decide_eq_true c11
     clear c11
     by_cases c12 : x15_1 < (t176.length : Int)
     ·rw [if_pos c12] at H
      have c12b0 : decide (x15_1 < (t176.length : Int)) = true := decide_eq_true c12
      clear c12
      replace H := Option.bind_eq_some_iff.mp H
      obtain ⟨⟨t180, t181⟩, A130, H⟩ := H
      replace H : ((crc_Of.f t180 a1_0 a1_1 a1_2).bind fun bt182 => (if bt182.2.2.2.2.2.2 = 0 then ((keep_Name.f bt182.1 bt182.2.1).bind fun t196 => (if t196.toList = (rdOf ByteArray.empty t176 x15_1).toList then (if x5_1.length < 1466015503701 then (keep_Find.l0 k1 (x5_1 ++ [(⟨(⟨bt182.1, bt182.2.1⟩ : S23), bt182.2.2.1, bt182.2.2.2.1, bt182.2.2.2.2.1, bt182.2.2.2.2.2.1⟩ : S45)]) t176 (t176.length : Int) (wrap64 (x15_1 + 1)) a0_0 l0_1 a1_0 a1_1 a1_2) else (none)) else (keep_Find.l0 k1 x5_1 t176 (t176.length : Int) (wrap64 (x15_1 + 1)) a0_0 l0_1 a1_0 a1_1 a1_2))) else (keep_Find.l0 k1 x5_1 t176 (t176.length : Int) (wrap64 (x15_1 + 1)) a0_0 l0_1 a1_0 a1_1 a1_2))) = some r := H
      have A13 := A_ A130; clear A130
      replace H := Option.bind_eq_some_iff.mp H
      obtain ⟨⟨t182, t183, t184, t187, t190, t193, t194⟩, A140, H⟩ := H
      replace H : (if t194 = 0 then ((keep_Name.f t182 t183).bind fun t196 => (if t196.toList = (rdOf ByteArray.empty t176 x15_1).toList then (if x5_1.length < 1466015503701 then (keep_Find.l0 k1 (x5_1 ++ [(⟨(⟨t182, t183⟩ : S23), t184, t187, t190, t193⟩ : S45)]) t176 (t176.length : Int) (wrap64 (x15_1 + 1)) a0_0 l0_1 a1_0 a1_1 a1_2) else (none)) else (keep_Find.l0 k1 x5_1 t176 (t176.length : Int) (wrap64 (x15_1 + 1)) a0_0 l0_1 a1_0 a1_1 a1_2))) else (keep_Find.l0 k1 x5_1 t176 (t176.length : Int) (wrap64 (x15_1 + 1)) a0_0 l0_1 a1_0 a1_1 a1_2)) = some r := H
      have A14 := A_ A140; clear A140
      by_cases c15 : t194 = 0
      ·rw [if_pos c15] at H
       have c15b0 : (t194 == 0) = true := beq_iff_eq.mpr c15
       have c15b1 : (t194 != 0) = false := bne_eq_false_iff_eq.mpr c15
       clear c15
       replace H := Option.bind_eq_some_iff.mp H
       obtain ⟨t196, A160, H⟩ := H
       replace H : (if t196.toList = (rdOf ByteArray.empty t176 x15_1).toList then (if x5_1.length < 1466015503701 then (keep_Find.l0 k1 (x5_1 ++ [(⟨(⟨t182, t183⟩ : S23), t184, t187, t190, t193⟩ : S45)]) t176 (t176.length : Int) (wrap64 (x15_1 + 1)) a0_0 l0_1 a1_0 a1_1 a1_2) else (none)) else (keep_Find.l0 k1 x5_1 t176 (t176.length : Int) (wrap64 (x15_1 + 1)) a0_0 l0_1 a1_0 a1_1 a1_2)) = some r := H
       have A16 := A_ A160; clear A160
       by_cases c17 : t196.toList = (rdOf ByteArray.empty t176 x15_1).toList
       ·rw [if_pos c17] at H
        have c17b0 : (t196.toList == (rdOf ByteArray.empty t176 x15_1).toList) = true := beq_iff_eq.mpr c17
        have c17b1 : (t196.toList != (rdOf ByteArray.empty t176 x15_1).toList) = false := bne_eq_false_iff_eq.mpr c17
        clear c17
        by_cases c18 : x5_1.length < 1466015503701
        ·rw [if_pos c18] at H
         have LMc18 := A_ c18; clear c18
         obtain ⟨y197, hy197⟩ : ∃ y_ : List (S45), y_ = (x5_1 ++ [(⟨(⟨t182, t183⟩ : S23), t184, t187, t190, t193⟩ : S45)]) := ⟨_, rfl⟩
         replace H : (keep_Find.l0 k1 y197 t176 (t176.length : Int) (wrap64 (x15_1 + 1)) a0_0 l0_1 a1_0 a1_1 a1_2) = some r := by first | (rw [hy197]; with_reducible exact H) | (have H2_ := (Option.bind_some _ _).symm.trans H; rw [hy197]; with_reducible exact H2_) | (have H2_ := (Option.bind_some _ _).symm.trans H; with_reducible exact H2_) | with_reducible exact H | (rw [hy197]; exact H) | exact H
         have Ny197 := A_ hy197; clear hy197
         have H' := A_ H
         clear H
         have p179 : 0 ≤ (x15_1 : Int) := of_decide_eq_true (by first | (with_reducible assumption) | assumption)
         have q179 : x15_1 < (t176.length : Int) := of_decide_eq_true (by first | (with_reducible assumption) | assumption)
         obtain ⟨ad179, e179, hx179_0⟩ := Kd.at_string (Kd.V_reads' HO_13.out).2.2 x15_1 p179 q179
         cases e179
         replace p179 := eq_true p179
         replace q179 := eq_true q179
         have hnb19 := NB174_175.out; have hnc19 := NB175_174.out
         obtain ⟨hcz20_0, hcz20_1, hfz20_0, hfz20_1⟩ := cf2_ BK174
         go_wp2_with (first | ((with_reducible refine gate_callee (f := 16) rfl ?_); refine goesL_ (some 22) rfl rfl Tryd.func16 (by kernel_rfl) rfl #[.agg #[.int .i64 a0_0, .slice A0_1 l0_1.length c0_1], .string (rdOf ByteArray.empty t176 x15_1)] rfl (by (try simp only [List.map_toArray, List.map_cons, List.map_nil]); first | done | rfl | (simp only [List.length_drop, List.length_take]; rfl)) ?_; (with_reducible refine (disk_Read.calls a0_0 _ _ l0_1 (rdOf ByteArray.empty t176 x15_1) t180 t181 _ ?side1 ?side2 A13.out).mono ?_); (case side1 => repeat (first | exact (Kd.V_reads' HO_175001.out).2.2 | (with_reducible refine Kd.C_alloc ?_ _) | (with_reducible refine Kd.C_drewN ?_ _) | (with_reducible refine Kd.C_drew ?_))); (case side2 => exact (Kd.V_reads' HO_175001.out).2.1); rintro e w21 ⟨rfl, hb⟩; refine ⟨_, rfl, ?_⟩; replace HO_5 := A_ (Kd.N_below (n_ HO_5) hb); replace HO_13 := A_ (Kd.V_below (v_ HO_13) hb); replace HO_175001 := A_ (Kd.V_below (v_ HO_175001) hb); replace BK174 := A_ (blk_below (g := gb174) (b_ BK174) hb); replace BK175 := A_ (blk_below (g := gb175) (b_ BK175) hb); replace HB := A_ (below_step (hB_ w) hb); (try clear hb); (try clear hb2); (try clear hk); (try clear hi); obtain ⟨hcz22_0, hcz22_1, hcz22_2, hfz22_0, hfz22_1, hfz22_2⟩ := cf3_ BK175) | ((with_reducible refine gate_callee (f := 17) rfl ?_); refine goesL_ (some 28) rfl rfl Tryd.func17 (by kernel_rfl) rfl #[.string t180, .agg #[.int .i64 a1_0, .int .i64 a1_1, .int .i64 a1_2]] rfl (by (try simp only [List.map_toArray, List.map_cons, List.map_nil]); first | done | rfl | (simp only [List.length_drop, List.length_take]; rfl)) ?_; (with_reducible refine (crc_Of.calls t180 a1_0 a1_1 a1_2 t182 t183 t184 t187 t190 t193 t194 _ (tbc_at w) A14.out).mono ?_); rintro e w23 ⟨v185, v188, v191, rfl, ho0, ho1, ho2, hb⟩; refine ⟨_, rfl, ?_⟩; replace HO_13 := A_ (Kd.V_below (v_ HO_13) hb); replace HO_175001 := A_ (Kd.V_below (v_ HO_175001) hb); have HO186 := A_ (Kd.V_lower (Kd.V_mono (ok' := fun k_ => (P0_1_ k_ ∨ w.heap.size ≤ k_) ∧ some k_ ≠ (u5 : Value).ownBlock ∧ k_ ≠ gb174 ∧ k_ ≠ gb175) ho0 (fun k_ hk_ => ⟨(.inr (Nat.le_trans (below_size (hB_ w)) hk_)), (Kd.fresh' (Kd.N_lt (n_ HO_5)) k_ hk_), (Kd.freshB (g := gb174) (b_ BK174) k_ hk_), (Kd.freshB (g := gb175) (b_ BK175) k_ hk_)⟩)) (below_size (hB_ w))); have HO189 := A_ (Kd.V_lower (Kd.V_mono (ok' := fun k_ => (P0_1_ k_ ∨ w.heap.size ≤ k_) ∧ some k_ ≠ (u5 : Value).ownBlock ∧ k_ ≠ gb174 ∧ k_ ≠ gb175) ho1 (fun k_ hk_ => ⟨(.inr (Nat.le_trans (below_size (hB_ w)) hk_)), (Kd.fresh' (Kd.N_lt (n_ HO_5)) k_ hk_), (Kd.freshB (g := gb174) (b_ BK174) k_ hk_), (Kd.freshB (g := gb175) (b_ BK175) k_ hk_)⟩)) (below_size (hB_ w))); have HO192 := A_ (Kd.V_lower (Kd.V_mono (ok' := fun k_ => (P0_1_ k_ ∨ w.heap.size ≤ k_) ∧ some k_ ≠ (u5 : Value).ownBlock ∧ k_ ≠ gb174 ∧ k_ ≠ gb175) ho2 (fun k_ hk_ => ⟨(.inr (Nat.le_trans (below_size (hB_ w)) hk_)), (Kd.fresh' (Kd.N_lt (n_ HO_5)) k_ hk_), (Kd.freshB (g := gb174) (b_ BK174) k_ hk_), (Kd.freshB (g := gb175) (b_ BK175) k_ hk_)⟩)) (below_size (hB_ w))); replace HO_5 := A_ (Kd.N_below (n_ HO_5) hb); replace BK174 := A_ (blk_below (g := gb174) (b_ BK174) hb); replace BK175 := A_ (blk_below (g := gb175) (b_ BK175) hb); replace HB := A_ (below_step (hB_ w) hb); (try clear hb); (try clear hb2); (try clear hk); (try clear hi); (try clear ho0); (try clear ho1); (try clear ho2)) | ((with_reducible refine gate_dst (N := 10) rfl ?_); refine box_event ?hg (N := 10) ?hd (cs := #[.int .i64 0, .int .i64 0, .slice none 0 0, .slice none 0 0, .slice none 0 0, .bool false]) (t := 45) ?hr ?_; (case hd => rfl); (case hg => rfl); (case hr => first | (go_simp; done) | (go_simp; rfl)); intro gb195 hg w24 hbox hb; replace HO_5 := A_ (Kd.N_below (Kd.N_elderB (n_ HO_5) gb195 (Nat.le_of_eq hg.symm)) hb); replace HO_13 := A_ (Kd.V_below (Kd.V_elderB (v_ HO_13) gb195 (Nat.le_of_eq hg.symm)) hb); replace HO_175001 := A_ (Kd.V_below (Kd.V_elderB (v_ HO_175001) gb195 (Nat.le_of_eq hg.symm)) hb); replace HO186 := A_ (Kd.V_below (Kd.V_elderB (v_ HO186) gb195 (Nat.le_of_eq hg.symm)) hb); replace HO189 := A_ (Kd.V_below (Kd.V_elderB (v_ HO189) gb195 (Nat.le_of_eq hg.symm)) hb); replace HO192 := A_ (Kd.V_below (Kd.V_elderB (v_ HO192) gb195 (Nat.le_of_eq hg.symm)) hb); have BK195 := A_ hbox; have GW195 := A_ ((by rw [hg]; exact (below_size (hB_ w)) : w.heap.size ≤ gb195)); have GE195 := A_ ((by rw [hg]; exact (below_size (hB_ w)) : w.heap.size ≤ gb195)); replace HB := A_ (below_step (hB_ w) hb); have NB174_195 := A_ ((by rw [hg]; exact Nat.ne_of_lt (blk_lt (g := gb174) (b_ BK174)) : gb174 ≠ gb195)); have NB195_174 := A_ ((by rw [hg]; exact Nat.ne_of_gt (blk_lt (g := gb174) (b_ BK174)) : gb195 ≠ gb174)); replace BK174 := A_ (blk_below (g := gb174) (b_ BK174) hb); have NB175_195 := A_ ((by rw [hg]; exact Nat.ne_of_lt (blk_lt (g := gb175) (b_ BK175)) : gb175 ≠ gb195)); have NB195_175 := A_ ((by rw [hg]; exact Nat.ne_of_gt (blk_lt (g := gb175) (b_ BK175)) : gb195 ≠ gb175)); replace BK175 := A_ (blk_below (g := gb175) (b_ BK175) hb); clear hb hbox hg; have hnb25 := NB195_174.out; have hnc25 := NB174_195.out; have hnb26 := NB195_175.out; have hnc26 := NB175_195.out; obtain ⟨hcz27_0, hcz27_1, hcz27_2, hcz27_3, hcz27_4, hcz27_5, hfz27_0, hfz27_1, hfz27_2, hfz27_3, hfz27_4, hfz27_5⟩ := cf6_ BK195; obtain ⟨Ao28, co28, eo28⟩ := Kd.V_slice HO186.out; subst eo28; obtain ⟨Ao29, co29, eo29⟩ := Kd.V_slice HO189.out; subst eo29; obtain ⟨Ao30, co30, eo30⟩ := Kd.V_slice HO192.out; subst eo30) | (go_at_call 6; (with_reducible refine (keep_Name.calls t182 t183 t196 _ (tbc_at w) A16.out).mono ?_); rintro e w31 ⟨rfl, hb⟩; replace HO_5 := A_ (Kd.N_below (by (with_reducible repeat (first|apply nA_|apply nN_|apply nD_)); exact (Kd.N_mono (Kd.N_far (p := ⟨gb195, 5, none⟩) (Kd.N_far (p := ⟨gb195, 4, none⟩) (Kd.N_far (p := ⟨gb195, 3, none⟩) (Kd.N_far (p := ⟨gb195, 2, none⟩) (Kd.N_far (p := ⟨gb195, 1, none⟩) (Kd.N_far (p := ⟨gb195, 0, none⟩) (Kd.N_mono HO_5.out (fun k_ hk => (⟨hk, hk.2⟩ : _ ∧ k_ ≠ gb195))) (fun _ hk => hk.2) (.int .i64 t182)) (fun _ hk => hk.2) (.int .i64 t183)) (fun _ hk => hk.2) (.slice Ao28 t184.length co28)) (fun _ hk => hk.2) (.slice Ao29 t187.length co29)) (fun _ hk => hk.2) (.slice Ao30 t190.length co30)) (fun _ hk => hk.2) (.bool t193)) (fun _ h_ => h_.1))) hb); replace HO_13 := A_ (Kd.V_below (by (with_reducible repeat (first|apply vA_|apply vN_|apply vD_)); exact (Kd.V_mono (Kd.V_far (p := ⟨gb195, 5, none⟩) (Kd.V_far (p := ⟨gb195, 4, none⟩) (Kd.V_far (p := ⟨gb195, 3, none⟩) (Kd.V_far (p := ⟨gb195, 2, none⟩) (Kd.V_far (p := ⟨gb195, 1, none⟩) (Kd.V_far (p := ⟨gb195, 0, none⟩) (Kd.V_mono HO_13.out (fun k_ hk => (⟨hk, hk.2⟩ : _ ∧ k_ ≠ gb195))) (fun _ hk => hk.2) (.int .i64 t182)) (fun _ hk => hk.2) (.int .i64 t183)) (fun _ hk => hk.2) (.slice Ao28 t184.length co28)) (fun _ hk => hk.2) (.slice Ao29 t187.length co29)) (fun _ hk => hk.2) (.slice Ao30 t190.length co30)) (fun _ hk => hk.2) (.bool t193)) (fun _ h_ => h_.1))) hb); replace HO_175001 := A_ (Kd.V_below (by (with_reducible repeat (first|apply vA_|apply vN_|apply vD_)); exact (Kd.V_mono (Kd.V_far (p := ⟨gb195, 5, none⟩) (Kd.V_far (p := ⟨gb195, 4, none⟩) (Kd.V_far (p := ⟨gb195, 3, none⟩) (Kd.V_far (p := ⟨gb195, 2, none⟩) (Kd.V_far (p := ⟨gb195, 1, none⟩) (Kd.V_far (p := ⟨gb195, 0, none⟩) (Kd.V_mono HO_175001.out (fun k_ hk => (⟨hk, hk.2⟩ : _ ∧ k_ ≠ gb195))) (fun _ hk => hk.2) (.int .i64 t182)) (fun _ hk => hk.2) (.int .i64 t183)) (fun _ hk => hk.2) (.slice Ao28 t184.length co28)) (fun _ hk => hk.2) (.slice Ao29 t187.length co29)) (fun _ hk => hk.2) (.slice Ao30 t190.length co30)) (fun _ hk => hk.2) (.bool t193)) (fun _ h_ => h_.1))) hb); replace HO186 := A_ (Kd.V_below (by (with_reducible repeat (first|apply vA_|apply vN_|apply vD_)); exact (Kd.V_mono (Kd.V_far (p := ⟨gb195, 5, none⟩) (Kd.V_far (p := ⟨gb195, 4, none⟩) (Kd.V_far (p := ⟨gb195, 3, none⟩) (Kd.V_far (p := ⟨gb195, 2, none⟩) (Kd.V_far (p := ⟨gb195, 1, none⟩) (Kd.V_far (p := ⟨gb195, 0, none⟩) (Kd.V_mono HO186.out (fun k_ hk => (⟨hk, hk.2⟩ : _ ∧ k_ ≠ gb195))) (fun _ hk => hk.2) (.int .i64 t182)) (fun _ hk => hk.2) (.int .i64 t183)) (fun _ hk => hk.2) (.slice Ao28 t184.length co28)) (fun _ hk => hk.2) (.slice Ao29 t187.length co29)) (fun _ hk => hk.2) (.slice Ao30 t190.length co30)) (fun _ hk => hk.2) (.bool t193)) (fun _ h_ => h_.1))) hb); replace HO189 := A_ (Kd.V_below (by (with_reducible repeat (first|apply vA_|apply vN_|apply vD_)); exact (Kd.V_mono (Kd.V_far (p := ⟨gb195, 5, none⟩) (Kd.V_far (p := ⟨gb195, 4, none⟩) (Kd.V_far (p := ⟨gb195, 3, none⟩) (Kd.V_far (p := ⟨gb195, 2, none⟩) (Kd.V_far (p := ⟨gb195, 1, none⟩) (Kd.V_far (p := ⟨gb195, 0, none⟩) (Kd.V_mono HO189.out (fun k_ hk => (⟨hk, hk.2⟩ : _ ∧ k_ ≠ gb195))) (fun _ hk => hk.2) (.int .i64 t182)) (fun _ hk => hk.2) (.int .i64 t183)) (fun _ hk => hk.2) (.slice Ao28 t184.length co28)) (fun _ hk => hk.2) (.slice Ao29 t187.length co29)) (fun _ hk => hk.2) (.slice Ao30 t190.length co30)) (fun _ hk => hk.2) (.bool t193)) (fun _ h_ => h_.1))) hb); replace HO192 := A_ (Kd.V_below (by (with_reducible repeat (first|apply vA_|apply vN_|apply vD_)); exact (Kd.V_mono (Kd.V_far (p := ⟨gb195, 5, none⟩) (Kd.V_far (p := ⟨gb195, 4, none⟩) (Kd.V_far (p := ⟨gb195, 3, none⟩) (Kd.V_far (p := ⟨gb195, 2, none⟩) (Kd.V_far (p := ⟨gb195, 1, none⟩) (Kd.V_far (p := ⟨gb195, 0, none⟩) (Kd.V_mono HO192.out (fun k_ hk => (⟨hk, hk.2⟩ : _ ∧ k_ ≠ gb195))) (fun _ hk => hk.2) (.int .i64 t182)) (fun _ hk => hk.2) (.int .i64 t183)) (fun _ hk => hk.2) (.slice Ao28 t184.length co28)) (fun _ hk => hk.2) (.slice Ao29 t187.length co29)) (fun _ hk => hk.2) (.slice Ao30 t190.length co30)) (fun _ hk => hk.2) (.bool t193)) (fun _ h_ => h_.1))) hb); replace BK174 := A_ (blk_below (g := gb174) (o := .cells #[.int .i64 a0_0, .slice A0_1 l0_1.length c0_1] 29 (0, 0)) (by (with_reducible repeat (first|apply bA_|apply bN_|apply bD_)); refine blk_far ?_ NB174_195.out _; (with_reducible repeat (first|apply bA_|apply bN_|apply bD_)); refine blk_far ?_ NB174_195.out _; (with_reducible repeat (first|apply bA_|apply bN_|apply bD_)); refine blk_far ?_ NB174_195.out _; (with_reducible repeat (first|apply bA_|apply bN_|apply bD_)); refine blk_far ?_ NB174_195.out _; (with_reducible repeat (first|apply bA_|apply bN_|apply bD_)); refine blk_far ?_ NB174_195.out _; (with_reducible repeat (first|apply bA_|apply bN_|apply bD_)); refine blk_far ?_ NB174_195.out _; (with_reducible repeat (first|apply bA_|apply bN_|apply bD_)); exact BK174.out) hb); replace BK175 := A_ (blk_below (g := gb175) (o := .cells #[.int .i64 a1_0, .int .i64 a1_1, .int .i64 a1_2] 31 (0, 0)) (by (with_reducible repeat (first|apply bA_|apply bN_|apply bD_)); refine blk_far ?_ NB175_195.out _; (with_reducible repeat (first|apply bA_|apply bN_|apply bD_)); refine blk_far ?_ NB175_195.out _; (with_reducible repeat (first|apply bA_|apply bN_|apply bD_)); refine blk_far ?_ NB175_195.out _; (with_reducible repeat (first|apply bA_|apply bN_|apply bD_)); refine blk_far ?_ NB175_195.out _; (with_reducible repeat (first|apply bA_|apply bN_|apply bD_)); refine blk_far ?_ NB175_195.out _; (with_reducible repeat (first|apply bA_|apply bN_|apply bD_)); refine blk_far ?_ NB175_195.out _; (with_reducible repeat (first|apply bA_|apply bN_|apply bD_)); exact BK175.out) hb); replace BK195 := A_ (blk_below (g := gb195) (o := .cells #[.int .i64 t182, .int .i64 t183, .slice Ao28 t184.length co28, .slice Ao29 t187.length co29, .slice Ao30 t190.length co30, .bool t193] 45 (0, 0)) (by (with_reducible repeat (first|apply bA_|apply bN_|apply bD_)); refine blk_put (cs := #[.int .i64 t182, .int .i64 t183, .slice Ao28 t184.length co28, .slice Ao29 t187.length co29, .slice Ao30 t190.length co30, .bool false]) ?_ 5 _ rfl; (with_reducible repeat (first|apply bA_|apply bN_|apply bD_)); refine blk_put (cs := #[.int .i64 t182, .int .i64 t183, .slice Ao28 t184.length co28, .slice Ao29 t187.length co29, .slice none 0 0, .bool false]) ?_ 4 _ rfl; (with_reducible repeat (first|apply bA_|apply bN_|apply bD_)); refine blk_put (cs := #[.int .i64 t182, .int .i64 t183, .slice Ao28 t184.length co28, .slice none 0 0, .slice none 0 0, .bool false]) ?_ 3 _ rfl; (with_reducible repeat (first|apply bA_|apply bN_|apply bD_)); refine blk_put (cs := #[.int .i64 t182, .int .i64 t183, .slice none 0 0, .slice none 0 0, .slice none 0 0, .bool false]) ?_ 2 _ rfl; (with_reducible repeat (first|apply bA_|apply bN_|apply bD_)); refine blk_put (cs := #[.int .i64 t182, .int .i64 0, .slice none 0 0, .slice none 0 0, .slice none 0 0, .bool false]) ?_ 1 _ rfl; (with_reducible repeat (first|apply bA_|apply bN_|apply bD_)); refine blk_put (cs := #[.int .i64 0, .int .i64 0, .slice none 0 0, .slice none 0 0, .slice none 0 0, .bool false]) ?_ 0 _ rfl; (with_reducible repeat (first|apply bA_|apply bN_|apply bD_)); exact BK195.out) hb); replace HB := A_ (below_step (hB_ w) hb); (try clear hb); (try clear hb2); (try clear hk); (try clear hi); obtain ⟨hcz32_0, hcz32_1, hcz32_2, hcz32_3, hcz32_4, hcz32_5, hfz32_0, hfz32_1, hfz32_2, hfz32_3, hfz32_4, hfz32_5⟩ := cf6_ BK195) | ((with_reducible refine gate_builtin (b := .append) (xs := #[.tmp 40, .tmp 42]) rfl ?_); at_builtin; refine Kd.N_append k45 (w0 := w) w.heap.size rfl (.tmp 40) (.tmp 42) 34 45 (.agg #[(.int .i64 0), (.int .i64 0), (.slice none 0 0), (.slice none 0 0), (.slice none 0 0), (.bool false)]) 96 rfl Tryd.underlying34 info45 rfl (by decide) (by omega) u5 x5_1 (⟨(⟨t182, t183⟩ : S23), t184, t187, t190, t193⟩ : S45) [.int .i64 t182, .int .i64 t183, .slice Ao28 t184.length co28, .slice Ao29 t187.length co29, .slice Ao30 t190.length co30, .bool t193] (fun k_ => (P0_1_ k_ ∨ w.heap.size ≤ k_) ∧ k_ ≠ gb174 ∧ k_ ≠ gb175 ∧ k_ ≠ gb195) (fun k_ => ((fun k_ => (P0_1_ k_ ∨ w.heap.size ≤ k_) ∧ k_ ≠ gb174 ∧ k_ ≠ gb175 ∧ k_ ≠ gb195)) k_ ∧ some k_ ≠ (u5 : Value).ownBlock) rfl rfl ?aP (fun _ hk => hk) ?aF ?aO ?aB ?aS ?aL ?_; (case aP => exact (k45_mkF _ _ (⟨(⟨t182, t183⟩ : S23), t184, t187, t190, t193⟩ : S45) (Kd.V_reads' (Kd.V_mono (ok' := (fun k_ => ((fun k_ => (P0_1_ k_ ∨ w.heap.size ≤ k_) ∧ k_ ≠ gb174 ∧ k_ ≠ gb175 ∧ k_ ≠ gb195)) k_ ∧ some k_ ≠ (u5 : Value).ownBlock)) (HO186.out) (fun k_ hk => ⟨⟨hk.1.1, ⟨hk.1.2.2.1, ⟨hk.1.2.2.2, hk.2⟩⟩⟩, hk.1.2.1⟩))).2.1 (Kd.V_F (Kd.V_mono (ok' := (fun k_ => ((fun k_ => (P0_1_ k_ ∨ w.heap.size ≤ k_) ∧ k_ ≠ gb174 ∧ k_ ≠ gb175 ∧ k_ ≠ gb195)) k_ ∧ some k_ ≠ (u5 : Value).ownBlock)) (HO186.out) (fun k_ hk => ⟨⟨hk.1.1, ⟨hk.1.2.2.1, ⟨hk.1.2.2.2, hk.2⟩⟩⟩, hk.1.2.1⟩))) (Kd.V_reads' (Kd.V_mono (ok' := (fun k_ => ((fun k_ => (P0_1_ k_ ∨ w.heap.size ≤ k_) ∧ k_ ≠ gb174 ∧ k_ ≠ gb175 ∧ k_ ≠ gb195)) k_ ∧ some k_ ≠ (u5 : Value).ownBlock)) (HO189.out) (fun k_ hk => ⟨⟨hk.1.1, ⟨hk.1.2.2.1, ⟨hk.1.2.2.2, hk.2⟩⟩⟩, hk.1.2.1⟩))).2.1 (Kd.V_F (Kd.V_mono (ok' := (fun k_ => ((fun k_ => (P0_1_ k_ ∨ w.heap.size ≤ k_) ∧ k_ ≠ gb174 ∧ k_ ≠ gb175 ∧ k_ ≠ gb195)) k_ ∧ some k_ ≠ (u5 : Value).ownBlock)) (HO189.out) (fun k_ hk => ⟨⟨hk.1.1, ⟨hk.1.2.2.1, ⟨hk.1.2.2.2, hk.2⟩⟩⟩, hk.1.2.1⟩))) (Kd.V_reads' (Kd.V_mono (ok' := (fun k_ => ((fun k_ => (P0_1_ k_ ∨ w.heap.size ≤ k_) ∧ k_ ≠ gb174 ∧ k_ ≠ gb175 ∧ k_ ≠ gb195)) k_ ∧ some k_ ≠ (u5 : Value).ownBlock)) (HO192.out) (fun k_ hk => ⟨⟨hk.1.1, ⟨hk.1.2.2.1, ⟨hk.1.2.2.2, hk.2⟩⟩⟩, hk.1.2.1⟩))).2.1 (Kd.V_F (Kd.V_mono (ok' := (fun k_ => ((fun k_ => (P0_1_ k_ ∨ w.heap.size ≤ k_) ∧ k_ ≠ gb174 ∧ k_ ≠ gb175 ∧ k_ ≠ gb195)) k_ ∧ some k_ ≠ (u5 : Value).ownBlock)) (HO192.out) (fun k_ hk => ⟨⟨hk.1.1, ⟨hk.1.2.2.1, ⟨hk.1.2.2.2, hk.2⟩⟩⟩, hk.1.2.1⟩))))); (case aB => exact (hB_ w)); (case aF => exact (fun k_ hk => ⟨(.inr (Nat.le_trans (below_size (hB_ w)) hk)), Kd.freshB (g := gb174) (b_ BK174) k_ hk, Kd.freshB (g := gb175) (b_ BK175) k_ hk, Kd.freshB (g := gb195) (b_ BK195) k_ hk⟩)); (case aO => exact (Kd.N_mono (n_ HO_5) (fun _ hk => ⟨hk.1.1, ⟨hk.1.2.1, ⟨hk.1.2.2, hk.2⟩⟩⟩))); (case aS => exact (below_size (hB_ w))); (case aL => have := LMc18.out; omega); intro v198 w33 ho hb hg hat; rw [← Ny197.out] at ho; replace HO_13 := A_ (Kd.V_afterv (ok := (fun k_ => (P0_1_ k_ ∨ w.heap.size ≤ k_) ∧ k_ ≠ gb174 ∧ k_ ≠ gb175 ∧ k_ ≠ gb195)) (Kd.V_mono (v_ HO_13) (fun _ hk => ⟨⟨hk.1.1, ⟨hk.1.2.2.1, ⟨hk.1.2.2.2, hk.2⟩⟩⟩, hk.1.2.1⟩)) hg hat); replace HO_175001 := A_ (Kd.V_afterv (ok := (fun k_ => (P0_1_ k_ ∨ w.heap.size ≤ k_) ∧ k_ ≠ gb174 ∧ k_ ≠ gb175 ∧ k_ ≠ gb195)) (Kd.V_mono (v_ HO_175001) (fun _ hk => ⟨⟨hk.1.1, ⟨hk.1.2.2.1, ⟨hk.1.2.2.2, hk.2⟩⟩⟩, hk.1.2.1⟩)) hg hat); replace BK174 := A_ (blk_grown (g := gb174) (b_ BK174) hg (Kd.N_ne HO_5.out BK174.out (by decide))); replace BK175 := A_ (blk_grown (g := gb175) (b_ BK175) hg (Kd.N_ne HO_5.out BK175.out (by decide))); replace HO186 := A_ (Kd.V_afterv (ok := (fun k_ => (P0_1_ k_ ∨ w.heap.size ≤ k_) ∧ k_ ≠ gb174 ∧ k_ ≠ gb175 ∧ k_ ≠ gb195)) (Kd.V_mono (v_ HO186) (fun _ hk => ⟨⟨hk.1.1, ⟨hk.1.2.2.1, ⟨hk.1.2.2.2, hk.2⟩⟩⟩, hk.1.2.1⟩)) hg hat); replace HO189 := A_ (Kd.V_afterv (ok := (fun k_ => (P0_1_ k_ ∨ w.heap.size ≤ k_) ∧ k_ ≠ gb174 ∧ k_ ≠ gb175 ∧ k_ ≠ gb195)) (Kd.V_mono (v_ HO189) (fun _ hk => ⟨⟨hk.1.1, ⟨hk.1.2.2.1, ⟨hk.1.2.2.2, hk.2⟩⟩⟩, hk.1.2.1⟩)) hg hat); replace HO192 := A_ (Kd.V_afterv (ok := (fun k_ => (P0_1_ k_ ∨ w.heap.size ≤ k_) ∧ k_ ≠ gb174 ∧ k_ ≠ gb175 ∧ k_ ≠ gb195)) (Kd.V_mono (v_ HO192) (fun _ hk => ⟨⟨hk.1.1, ⟨hk.1.2.2.1, ⟨hk.1.2.2.2, hk.2⟩⟩⟩, hk.1.2.1⟩)) hg hat); replace BK195 := A_ (blk_grown (g := gb195) (b_ BK195) hg (Kd.N_away HO_5.out (fun _ hk => hk.2))); replace HB := A_ hb; have HO199 := A_ ho; clear HO_5; clear ho hb hg hat))
         go_roundg k1
         case measure => have := HK1.out; omega
         case rel => exact ⟨(y197), (wrap64 (x15_1 + 1)), (by first | rfl | (simp; done) | (simp [*]; done)), H', ⟨by have := HK1.out; omega⟩, ⟨Kd.N_mono (n_ HO199) (fun _ hk => ⟨hk.1, ⟨hk.2.1, hk.2.2.1⟩⟩)⟩, ⟨Kd.V_mono (v_ HO_13) (fun _ hk => ⟨hk.1.1, ⟨hk.2, ⟨hk.1.2.1, hk.1.2.2.1⟩⟩⟩)⟩, ⟨Kd.V_mono (v_ HO_175001) (fun _ hk => ⟨hk.1.1, ⟨hk.2, ⟨hk.1.2.1, hk.1.2.2.1⟩⟩⟩)⟩, ⟨b_ BK174⟩, ⟨b_ BK175⟩, ⟨hB_ w⟩⟩
        rw [if_neg c18] at H
        exact absurd H (by simp)
       rw [if_neg c17] at H
       have c17b0 : (t196.toList == (rdOf ByteArray.empty t176 x15_1).toList) = false := beq_eq_false_iff_ne.mpr c17
       have c17b1 : (t196.toList != (rdOf ByteArray.empty t176 x15_1).toList) = true := bne_iff_ne.mpr c17
       have H' := A_ H
       clear H
       have p179 : 0 ≤ (x15_1 : Int) := of_decide_eq_true (by first | (with_reducible assumption) | assumption)
       have q179 : x15_1 < (t176.length : Int) := of_decide_eq_true (by first | (with_reducible assumption) | assumption)
       obtain ⟨ad179, e179, hx179_0⟩ := Kd.at_string (Kd.V_reads' HO_13.out).2.2 x15_1 p179 q179
       cases e179
       replace p179 := eq_true p179
       replace q179 := eq_true q179
       have hnb34 := NB174_175.out; have hnc34 := NB175_174.out
       obtain ⟨hcz35_0, hcz35_1, hfz35_0, hfz35_1⟩ := cf2_ BK174
       go_wp2_with (first | ((with_reducible refine gate_callee (f := 16) rfl ?_); refine goesL_ (some 22) rfl rfl Tryd.func16 (by kernel_rfl) rfl #[.agg #[.int .i64 a0_0, .slice A0_1 l0_1.length c0_1], .string (rdOf ByteArray.empty t176 x15_1)] rfl (by (try simp only [List.map_toArray, List.map_cons, List.map_nil]); first | done | rfl | (simp only [List.length_drop, List.length_take]; rfl)) ?_; (with_reducible refine (disk_Read.calls a0_0 _ _ l0_1 (rdOf ByteArray.empty t176 x15_1) t180 t181 _ ?side1 ?side2 A13.out).mono ?_); (case side1 => repeat (first | exact (Kd.V_reads' HO_175001.out).2.2 | (with_reducible refine Kd.C_alloc ?_ _) | (with_reducible refine Kd.C_drewN ?_ _) | (with_reducible refine Kd.C_drew ?_))); (case side2 => exact (Kd.V_reads' HO_175001.out).2.1); rintro e w36 ⟨rfl, hb⟩; refine ⟨_, rfl, ?_⟩; replace HO_5 := A_ (Kd.N_below (n_ HO_5) hb); replace HO_13 := A_ (Kd.V_below (v_ HO_13) hb); replace HO_175001 := A_ (Kd.V_below (v_ HO_175001) hb); replace BK174 := A_ (blk_below (g := gb174) (b_ BK174) hb); replace BK175 := A_ (blk_below (g := gb175) (b_ BK175) hb); replace HB := A_ (below_step (hB_ w) hb); (try clear hb); (try clear hb2); (try clear hk); (try clear hi); obtain ⟨hcz37_0, hcz37_1, hcz37_2, hfz37_0, hfz37_1, hfz37_2⟩ := cf3_ BK175) | ((with_reducible refine gate_callee (f := 17) rfl ?_); refine goesL_ (some 28) rfl rfl Tryd.func17 (by kernel_rfl) rfl #[.string t180, .agg #[.int .i64 a1_0, .int .i64 a1_1, .int .i64 a1_2]] rfl (by (try simp only [List.map_toArray, List.map_cons, List.map_nil]); first | done | rfl | (simp only [List.length_drop, List.length_take]; rfl)) ?_; (with_reducible refine (crc_Of.calls t180 a1_0 a1_1 a1_2 t182 t183 t184 t187 t190 t193 t194 _ (tbc_at w) A14.out).mono ?_); rintro e w38 ⟨v185, v188, v191, rfl, ho0, ho1, ho2, hb⟩; refine ⟨_, rfl, ?_⟩; replace HO_13 := A_ (Kd.V_below (v_ HO_13) hb); replace HO_175001 := A_ (Kd.V_below (v_ HO_175001) hb); have HO186 := A_ (Kd.V_lower (Kd.V_mono (ok' := fun k_ => (P0_1_ k_ ∨ w.heap.size ≤ k_) ∧ some k_ ≠ (u5 : Value).ownBlock ∧ k_ ≠ gb174 ∧ k_ ≠ gb175) ho0 (fun k_ hk_ => ⟨(.inr (Nat.le_trans (below_size (hB_ w)) hk_)), (Kd.fresh' (Kd.N_lt (n_ HO_5)) k_ hk_), (Kd.freshB (g := gb174) (b_ BK174) k_ hk_), (Kd.freshB (g := gb175) (b_ BK175) k_ hk_)⟩)) (below_size (hB_ w))); have HO189 := A_ (Kd.V_lower (Kd.V_mono (ok' := fun k_ => (P0_1_ k_ ∨ w.heap.size ≤ k_) ∧ some k_ ≠ (u5 : Value).ownBlock ∧ k_ ≠ gb174 ∧ k_ ≠ gb175) ho1 (fun k_ hk_ => ⟨(.inr (Nat.le_trans (below_size (hB_ w)) hk_)), (Kd.fresh' (Kd.N_lt (n_ HO_5)) k_ hk_), (Kd.freshB (g := gb174) (b_ BK174) k_ hk_), (Kd.freshB (g := gb175) (b_ BK175) k_ hk_)⟩)) (below_size (hB_ w))); have HO192 := A_ (Kd.V_lower (Kd.V_mono (ok' := fun k_ => (P0_1_ k_ ∨ w.heap.size ≤ k_) ∧ some k_ ≠ (u5 : Value).ownBlock ∧ k_ ≠ gb174 ∧ k_ ≠ gb175) ho2 (fun k_ hk_ => ⟨(.inr (Nat.le_trans (below_size (hB_ w)) hk_)), (Kd.fresh' (Kd.N_lt (n_ HO_5)) k_ hk_), (Kd.freshB (g := gb174) (b_ BK174) k_ hk_), (Kd.freshB (g := gb175) (b_ BK175) k_ hk_)⟩)) (below_size (hB_ w))); replace HO_5 := A_ (Kd.N_below (n_ HO_5) hb); replace BK174 := A_ (blk_below (g := gb174) (b_ BK174) hb); replace BK175 := A_ (blk_below (g := gb175) (b_ BK175) hb); replace HB := A_ (below_step (hB_ w) hb); (try clear hb); (try clear hb2); (try clear hk); (try clear hi); (try clear ho0); (try clear ho1); (try clear ho2)) | ((with_reducible refine gate_dst (N := 10) rfl ?_); refine box_event ?hg (N := 10) ?hd (cs := #[.int .i64 0, .int .i64 0, .slice none 0 0, .slice none 0 0, .slice none 0 0, .bool false]) (t := 45) ?hr ?_; (case hd => rfl); (case hg => rfl); (case hr => first | (go_simp; done) | (go_simp; rfl)); intro gb195 hg w39 hbox hb; replace HO_5 := A_ (Kd.N_below (Kd.N_elderB (n_ HO_5) gb195 (Nat.le_of_eq hg.symm)) hb); replace HO_13 := A_ (Kd.V_below (Kd.V_elderB (v_ HO_13) gb195 (Nat.le_of_eq hg.symm)) hb); replace HO_175001 := A_ (Kd.V_below (Kd.V_elderB (v_ HO_175001) gb195 (Nat.le_of_eq hg.symm)) hb); replace HO186 := A_ (Kd.V_below (Kd.V_elderB (v_ HO186) gb195 (Nat.le_of_eq hg.symm)) hb); replace HO189 := A_ (Kd.V_below (Kd.V_elderB (v_ HO189) gb195 (Nat.le_of_eq hg.symm)) hb); replace HO192 := A_ (Kd.V_below (Kd.V_elderB (v_ HO192) gb195 (Nat.le_of_eq hg.symm)) hb); have BK195 := A_ hbox; have GW195 := A_ ((by rw [hg]; exact (below_size (hB_ w)) : w.heap.size ≤ gb195)); have GE195 := A_ ((by rw [hg]; exact (below_size (hB_ w)) : w.heap.size ≤ gb195)); replace HB := A_ (below_step (hB_ w) hb); have NB174_195 := A_ ((by rw [hg]; exact Nat.ne_of_lt (blk_lt (g := gb174) (b_ BK174)) : gb174 ≠ gb195)); have NB195_174 := A_ ((by rw [hg]; exact Nat.ne_of_gt (blk_lt (g := gb174) (b_ BK174)) : gb195 ≠ gb174)); replace BK174 := A_ (blk_below (g := gb174) (b_ BK174) hb); have NB175_195 := A_ ((by rw [hg]; exact Nat.ne_of_lt (blk_lt (g := gb175) (b_ BK175)) : gb175 ≠ gb195)); have NB195_175 := A_ ((by rw [hg]; exact Nat.ne_of_gt (blk_lt (g := gb175) (b_ BK175)) : gb195 ≠ gb175)); replace BK175 := A_ (blk_below (g := gb175) (b_ BK175) hb); clear hb hbox hg; have hnb40 := NB195_174.out; have hnc40 := NB174_195.out; have hnb41 := NB195_175.out; have hnc41 := NB175_195.out; obtain ⟨hcz42_0, hcz42_1, hcz42_2, hcz42_3, hcz42_4, hcz42_5, hfz42_0, hfz42_1, hfz42_2, hfz42_3, hfz42_4, hfz42_5⟩ := cf6_ BK195; obtain ⟨Ao43, co43, eo43⟩ := Kd.V_slice HO186.out; subst eo43; obtain ⟨Ao44, co44, eo44⟩ := Kd.V_slice HO189.out; subst eo44; obtain ⟨Ao45, co45, eo45⟩ := Kd.V_slice HO192.out; subst eo45) | (go_at_call 6; (with_reducible refine (keep_Name.calls t182 t183 t196 _ (tbc_at w) A16.out).mono ?_); rintro e w46 ⟨rfl, hb⟩; replace HO_5 := A_ (Kd.N_below (by (with_reducible repeat (first|apply nA_|apply nN_|apply nD_)); exact (Kd.N_mono (Kd.N_far (p := ⟨gb195, 5, none⟩) (Kd.N_far (p := ⟨gb195, 4, none⟩) (Kd.N_far (p := ⟨gb195, 3, none⟩) (Kd.N_far (p := ⟨gb195, 2, none⟩) (Kd.N_far (p := ⟨gb195, 1, none⟩) (Kd.N_far (p := ⟨gb195, 0, none⟩) (Kd.N_mono HO_5.out (fun k_ hk => (⟨hk, hk.2⟩ : _ ∧ k_ ≠ gb195))) (fun _ hk => hk.2) (.int .i64 t182)) (fun _ hk => hk.2) (.int .i64 t183)) (fun _ hk => hk.2) (.slice Ao43 t184.length co43)) (fun _ hk => hk.2) (.slice Ao44 t187.length co44)) (fun _ hk => hk.2) (.slice Ao45 t190.length co45)) (fun _ hk => hk.2) (.bool t193)) (fun _ h_ => h_.1))) hb); replace HO_13 := A_ (Kd.V_below (by (with_reducible repeat (first|apply vA_|apply vN_|apply vD_)); exact (Kd.V_mono (Kd.V_far (p := ⟨gb195, 5, none⟩) (Kd.V_far (p := ⟨gb195, 4, none⟩) (Kd.V_far (p := ⟨gb195, 3, none⟩) (Kd.V_far (p := ⟨gb195, 2, none⟩) (Kd.V_far (p := ⟨gb195, 1, none⟩) (Kd.V_far (p := ⟨gb195, 0, none⟩) (Kd.V_mono HO_13.out (fun k_ hk => (⟨hk, hk.2⟩ : _ ∧ k_ ≠ gb195))) (fun _ hk => hk.2) (.int .i64 t182)) (fun _ hk => hk.2) (.int .i64 t183)) (fun _ hk => hk.2) (.slice Ao43 t184.length co43)) (fun _ hk => hk.2) (.slice Ao44 t187.length co44)) (fun _ hk => hk.2) (.slice Ao45 t190.length co45)) (fun _ hk => hk.2) (.bool t193)) (fun _ h_ => h_.1))) hb); replace HO_175001 := A_ (Kd.V_below (by (with_reducible repeat (first|apply vA_|apply vN_|apply vD_)); exact (Kd.V_mono (Kd.V_far (p := ⟨gb195, 5, none⟩) (Kd.V_far (p := ⟨gb195, 4, none⟩) (Kd.V_far (p := ⟨gb195, 3, none⟩) (Kd.V_far (p := ⟨gb195, 2, none⟩) (Kd.V_far (p := ⟨gb195, 1, none⟩) (Kd.V_far (p := ⟨gb195, 0, none⟩) (Kd.V_mono HO_175001.out (fun k_ hk => (⟨hk, hk.2⟩ : _ ∧ k_ ≠ gb195))) (fun _ hk => hk.2) (.int .i64 t182)) (fun _ hk => hk.2) (.int .i64 t183)) (fun _ hk => hk.2) (.slice Ao43 t184.length co43)) (fun _ hk => hk.2) (.slice Ao44 t187.length co44)) (fun _ hk => hk.2) (.slice Ao45 t190.length co45)) (fun _ hk => hk.2) (.bool t193)) (fun _ h_ => h_.1))) hb); replace HO186 := A_ (Kd.V_below (by (with_reducible repeat (first|apply vA_|apply vN_|apply vD_)); exact (Kd.V_mono (Kd.V_far (p := ⟨gb195, 5, none⟩) (Kd.V_far (p := ⟨gb195, 4, none⟩) (Kd.V_far (p := ⟨gb195, 3, none⟩) (Kd.V_far (p := ⟨gb195, 2, none⟩) (Kd.V_far (p := ⟨gb195, 1, none⟩) (Kd.V_far (p := ⟨gb195, 0, none⟩) (Kd.V_mono HO186.out (fun k_ hk => (⟨hk, hk.2⟩ : _ ∧ k_ ≠ gb195))) (fun _ hk => hk.2) (.int .i64 t182)) (fun _ hk => hk.2) (.int .i64 t183)) (fun _ hk => hk.2) (.slice Ao43 t184.length co43)) (fun _ hk => hk.2) (.slice Ao44 t187.length co44)) (fun _ hk => hk.2) (.slice Ao45 t190.length co45)) (fun _ hk => hk.2) (.bool t193)) (fun _ h_ => h_.1))) hb); replace HO189 := A_ (Kd.V_below (by (with_reducible repeat (first|apply vA_|apply vN_|apply vD_)); exact (Kd.V_mono (Kd.V_far (p := ⟨gb195, 5, none⟩) (Kd.V_far (p := ⟨gb195, 4, none⟩) (Kd.V_far (p := ⟨gb195, 3, none⟩) (Kd.V_far (p := ⟨gb195, 2, none⟩) (Kd.V_far (p := ⟨gb195, 1, none⟩) (Kd.V_far (p := ⟨gb195, 0, none⟩) (Kd.V_mono HO189.out (fun k_ hk => (⟨hk, hk.2⟩ : _ ∧ k_ ≠ gb195))) (fun _ hk => hk.2) (.int .i64 t182)) (fun _ hk => hk.2) (.int .i64 t183)) (fun _ hk => hk.2) (.slice Ao43 t184.length co43)) (fun _ hk => hk.2) (.slice Ao44 t187.length co44)) (fun _ hk => hk.2) (.slice Ao45 t190.length co45)) (fun _ hk => hk.2) (.bool t193)) (fun _ h_ => h_.1))) hb); replace HO192 := A_ (Kd.V_below (by (with_reducible repeat (first|apply vA_|apply vN_|apply vD_)); exact (Kd.V_mono (Kd.V_far (p := ⟨gb195, 5, none⟩) (Kd.V_far (p := ⟨gb195, 4, none⟩) (Kd.V_far (p := ⟨gb195, 3, none⟩) (Kd.V_far (p := ⟨gb195, 2, none⟩) (Kd.V_far (p := ⟨gb195, 1, none⟩) (Kd.V_far (p := ⟨gb195, 0, none⟩) (Kd.V_mono HO192.out (fun k_ hk => (⟨hk, hk.2⟩ : _ ∧ k_ ≠ gb195))) (fun _ hk => hk.2) (.int .i64 t182)) (fun _ hk => hk.2) (.int .i64 t183)) (fun _ hk => hk.2) (.slice Ao43 t184.length co43)) (fun _ hk => hk.2) (.slice Ao44 t187.length co44)) (fun _ hk => hk.2) (.slice Ao45 t190.length co45)) (fun _ hk => hk.2) (.bool t193)) (fun _ h_ => h_.1))) hb); replace BK174 := A_ (blk_below (g := gb174) (o := .cells #[.int .i64 a0_0, .slice A0_1 l0_1.length c0_1] 29 (0, 0)) (by (with_reducible repeat (first|apply bA_|apply bN_|apply bD_)); refine blk_far ?_ NB174_195.out _; (with_reducible repeat (first|apply bA_|apply bN_|apply bD_)); refine blk_far ?_ NB174_195.out _; (with_reducible repeat (first|apply bA_|apply bN_|apply bD_)); refine blk_far ?_ NB174_195.out _; (with_reducible repeat (first|apply bA_|apply bN_|apply bD_)); refine blk_far ?_ NB174_195.out _; (with_reducible repeat (first|apply bA_|apply bN_|apply bD_)); refine blk_far ?_ NB174_195.out _; (with_reducible repeat (first|apply bA_|apply bN_|apply bD_)); refine blk_far ?_ NB174_195.out _; (with_reducible repeat (first|apply bA_|apply bN_|apply bD_)); exact BK174.out) hb); replace BK175 := A_ (blk_below (g := gb175) (o := .cells #[.int .i64 a1_0, .int .i64 a1_1, .int .i64 a1_2] 31 (0, 0)) (by (with_reducible repeat (first|apply bA_|apply bN_|apply bD_)); refine blk_far ?_ NB175_195.out _; (with_reducible repeat (first|apply bA_|apply bN_|apply bD_)); refine blk_far ?_ NB175_195.out _; (with_reducible repeat (first|apply bA_|apply bN_|apply bD_)); refine blk_far ?_ NB175_195.out _; (with_reducible repeat (first|apply bA_|apply bN_|apply bD_)); refine blk_far ?_ NB175_195.out _; (with_reducible repeat (first|apply bA_|apply bN_|apply bD_)); refine blk_far ?_ NB175_195.out _; (with_reducible repeat (first|apply bA_|apply bN_|apply bD_)); refine blk_far ?_ NB175_195.out _; (with_reducible repeat (first|apply bA_|apply bN_|apply bD_)); exact BK175.out) hb); replace BK195 := A_ (blk_below (g := gb195) (o := .cells #[.int .i64 t182, .int .i64 t183, .slice Ao43 t184.length co43, .slice Ao44 t187.length co44, .slice Ao45 t190.length co45, .bool t193] 45 (0, 0)) (by (with_reducible repeat (first|apply bA_|apply bN_|apply bD_)); refine blk_put (cs := #[.int .i64 t182, .int .i64 t183, .slice Ao43 t184.length co43, .slice Ao44 t187.length co44, .slice Ao45 t190.length co45, .bool false]) ?_ 5 _ rfl; (with_reducible repeat (first|apply bA_|apply bN_|apply bD_)); refine blk_put (cs := #[.int .i64 t182, .int .i64 t183, .slice Ao43 t184.length co43, .slice Ao44 t187.length co44, .slice none 0 0, .bool false]) ?_ 4 _ rfl; (with_reducible repeat (first|apply bA_|apply bN_|apply bD_)); refine blk_put (cs := #[.int .i64 t182, .int .i64 t183, .slice Ao43 t184.length co43, .slice none 0 0, .slice none 0 0, .bool false]) ?_ 3 _ rfl; (with_reducible repeat (first|apply bA_|apply bN_|apply bD_)); refine blk_put (cs := #[.int .i64 t182, .int .i64 t183, .slice none 0 0, .slice none 0 0, .slice none 0 0, .bool false]) ?_ 2 _ rfl; (with_reducible repeat (first|apply bA_|apply bN_|apply bD_)); refine blk_put (cs := #[.int .i64 t182, .int .i64 0, .slice none 0 0, .slice none 0 0, .slice none 0 0, .bool false]) ?_ 1 _ rfl; (with_reducible repeat (first|apply bA_|apply bN_|apply bD_)); refine blk_put (cs := #[.int .i64 0, .int .i64 0, .slice none 0 0, .slice none 0 0, .slice none 0 0, .bool false]) ?_ 0 _ rfl; (with_reducible repeat (first|apply bA_|apply bN_|apply bD_)); exact BK195.out) hb); replace HB := A_ (below_step (hB_ w) hb); (try clear hb); (try clear hb2); (try clear hk); (try clear hi)))
       go_roundg k1
       case measure => have := HK1.out; omega
       case rel => exact ⟨(x5_1), (wrap64 (x15_1 + 1)), (by first | rfl | (simp; done) | (simp [*]; done)), H', ⟨by have := HK1.out; omega⟩, ⟨Kd.N_mono (n_ HO_5) (fun _ hk => ⟨hk.1.1, ⟨hk.1.2.1, hk.1.2.2⟩⟩)⟩, ⟨Kd.V_mono (v_ HO_13) (fun _ hk => ⟨hk.1.1, ⟨hk.1.2.1, ⟨hk.1.2.2.1, hk.1.2.2.2⟩⟩⟩)⟩, ⟨Kd.V_mono (v_ HO_175001) (fun _ hk => ⟨hk.1.1, ⟨hk.1.2.1, ⟨hk.1.2.2.1, hk.1.2.2.2⟩⟩⟩)⟩, ⟨b_ BK174⟩, ⟨b_ BK175⟩, ⟨hB_ w⟩⟩
      rw [if_neg c15] at H
      have c15b0 : (t194 == 0) = false := beq_eq_false_iff_ne.mpr c15
      have c15b1 : (t194 != 0) = true := bne_iff_ne.mpr c15
      have H' := A_ H
      clear H
      have p179 : 0 ≤ (x15_1 : Int) := of_decide_eq_true (by first | (with_reducible assumption) | assumption)
      have q179 : x15_1 < (t176.length : Int) := of_decide_eq_true (by first | (with_reducible assumption) | assumption)
      obtain ⟨ad179, e179, hx179_0⟩ := Kd.at_string (Kd.V_reads' HO_13.out).2.2 x15_1 p179 q179
      cases e179
      replace p179 := eq_true p179
      replace q179 := eq_true q179
      have hnb47 := NB174_175.out; have hnc47 := NB175_174.out
      obtain ⟨hcz48_0, hcz48_1, hfz48_0, hfz48_1⟩ := cf2_ BK174
      go_wp2_with (first | ((with_reducible refine gate_callee (f := 16) rfl ?_); refine goesL_ (some 22) rfl rfl Tryd.func16 (by kernel_rfl) rfl #[.agg #[.int .i64 a0_0, .slice A0_1 l0_1.length c0_1], .string (rdOf ByteArray.empty t176 x15_1)] rfl (by (try simp only [List.map_toArray, List.map_cons, List.map_nil]); first | done | rfl | (simp only [List.length_drop, List.length_take]; rfl)) ?_; (with_reducible refine (disk_Read.calls a0_0 _ _ l0_1 (rdOf ByteArray.empty t176 x15_1) t180 t181 _ ?side1 ?side2 A13.out).mono ?_); (case side1 => repeat (first | exact (Kd.V_reads' HO_175001.out).2.2 | (with_reducible refine Kd.C_alloc ?_ _) | (with_reducible refine Kd.C_drewN ?_ _) | (with_reducible refine Kd.C_drew ?_))); (case side2 => exact (Kd.V_reads' HO_175001.out).2.1); rintro e w49 ⟨rfl, hb⟩; refine ⟨_, rfl, ?_⟩; replace HO_5 := A_ (Kd.N_below (n_ HO_5) hb); replace HO_13 := A_ (Kd.V_below (v_ HO_13) hb); replace HO_175001 := A_ (Kd.V_below (v_ HO_175001) hb); replace BK174 := A_ (blk_below (g := gb174) (b_ BK174) hb); replace BK175 := A_ (blk_below (g := gb175) (b_ BK175) hb); replace HB := A_ (below_step (hB_ w) hb); (try clear hb); (try clear hb2); (try clear hk); (try clear hi); obtain ⟨hcz50_0, hcz50_1, hcz50_2, hfz50_0, hfz50_1, hfz50_2⟩ := cf3_ BK175) | ((with_reducible refine gate_callee (f := 17) rfl ?_); refine goesL_ (some 28) rfl rfl Tryd.func17 (by kernel_rfl) rfl #[.string t180, .agg #[.int .i64 a1_0, .int .i64 a1_1, .int .i64 a1_2]] rfl (by (try simp only [List.map_toArray, List.map_cons, List.map_nil]); first | done | rfl | (simp only [List.length_drop, List.length_take]; rfl)) ?_; (with_reducible refine (crc_Of.calls t180 a1_0 a1_1 a1_2 t182 t183 t184 t187 t190 t193 t194 _ (tbc_at w) A14.out).mono ?_); rintro e w51 ⟨v185, v188, v191, rfl, ho0, ho1, ho2, hb⟩; refine ⟨_, rfl, ?_⟩; replace HO_13 := A_ (Kd.V_below (v_ HO_13) hb); replace HO_175001 := A_ (Kd.V_below (v_ HO_175001) hb); have HO186 := A_ (Kd.V_lower (Kd.V_mono (ok' := fun k_ => (P0_1_ k_ ∨ w.heap.size ≤ k_) ∧ some k_ ≠ (u5 : Value).ownBlock ∧ k_ ≠ gb174 ∧ k_ ≠ gb175) ho0 (fun k_ hk_ => ⟨(.inr (Nat.le_trans (below_size (hB_ w)) hk_)), (Kd.fresh' (Kd.N_lt (n_ HO_5)) k_ hk_), (Kd.freshB (g := gb174) (b_ BK174) k_ hk_), (Kd.freshB (g := gb175) (b_ BK175) k_ hk_)⟩)) (below_size (hB_ w))); have HO189 := A_ (Kd.V_lower (Kd.V_mono (ok' := fun k_ => (P0_1_ k_ ∨ w.heap.size ≤ k_) ∧ some k_ ≠ (u5 : Value).ownBlock ∧ k_ ≠ gb174 ∧ k_ ≠ gb175) ho1 (fun k_ hk_ => ⟨(.inr (Nat.le_trans (below_size (hB_ w)) hk_)), (Kd.fresh' (Kd.N_lt (n_ HO_5)) k_ hk_), (Kd.freshB (g := gb174) (b_ BK174) k_ hk_), (Kd.freshB (g := gb175) (b_ BK175) k_ hk_)⟩)) (below_size (hB_ w))); have HO192 := A_ (Kd.V_lower (Kd.V_mono (ok' := fun k_ => (P0_1_ k_ ∨ w.heap.size ≤ k_) ∧ some k_ ≠ (u5 : Value).ownBlock ∧ k_ ≠ gb174 ∧ k_ ≠ gb175) ho2 (fun k_ hk_ => ⟨(.inr (Nat.le_trans (below_size (hB_ w)) hk_)), (Kd.fresh' (Kd.N_lt (n_ HO_5)) k_ hk_), (Kd.freshB (g := gb174) (b_ BK174) k_ hk_), (Kd.freshB (g := gb175) (b_ BK175) k_ hk_)⟩)) (below_size (hB_ w))); replace HO_5 := A_ (Kd.N_below (n_ HO_5) hb); replace BK174 := A_ (blk_below (g := gb174) (b_ BK174) hb); replace BK175 := A_ (blk_below (g := gb175) (b_ BK175) hb); replace HB := A_ (below_step (hB_ w) hb); (try clear hb); (try clear hb2); (try clear hk); (try clear hi); (try clear ho0); (try clear ho1); (try clear ho2)) | ((with_reducible refine gate_dst (N := 10) rfl ?_); refine box_event ?hg (N := 10) ?hd (cs := #[.int .i64 0, .int .i64 0, .slice none 0 0, .slice none 0 0, .slice none 0 0, .bool false]) (t := 45) ?hr ?_; (case hd => rfl); (case hg => rfl); (case hr => first | (go_simp; done) | (go_simp; rfl)); intro gb195 hg w52 hbox hb; replace HO_5 := A_ (Kd.N_below (Kd.N_elderB (n_ HO_5) gb195 (Nat.le_of_eq hg.symm)) hb); replace HO_13 := A_ (Kd.V_below (Kd.V_elderB (v_ HO_13) gb195 (Nat.le_of_eq hg.symm)) hb); replace HO_175001 := A_ (Kd.V_below (Kd.V_elderB (v_ HO_175001) gb195 (Nat.le_of_eq hg.symm)) hb); replace HO186 := A_ (Kd.V_below (Kd.V_elderB (v_ HO186) gb195 (Nat.le_of_eq hg.symm)) hb); replace HO189 := A_ (Kd.V_below (Kd.V_elderB (v_ HO189) gb195 (Nat.le_of_eq hg.symm)) hb); replace HO192 := A_ (Kd.V_below (Kd.V_elderB (v_ HO192) gb195 (Nat.le_of_eq hg.symm)) hb); have BK195 := A_ hbox; have GW195 := A_ ((by rw [hg]; exact (below_size (hB_ w)) : w.heap.size ≤ gb195)); have GE195 := A_ ((by rw [hg]; exact (below_size (hB_ w)) : w.heap.size ≤ gb195)); replace HB := A_ (below_step (hB_ w) hb); have NB174_195 := A_ ((by rw [hg]; exact Nat.ne_of_lt (blk_lt (g := gb174) (b_ BK174)) : gb174 ≠ gb195)); have NB195_174 := A_ ((by rw [hg]; exact Nat.ne_of_gt (blk_lt (g := gb174) (b_ BK174)) : gb195 ≠ gb174)); replace BK174 := A_ (blk_below (g := gb174) (b_ BK174) hb); have NB175_195 := A_ ((by rw [hg]; exact Nat.ne_of_lt (blk_lt (g := gb175) (b_ BK175)) : gb175 ≠ gb195)); have NB195_175 := A_ ((by rw [hg]; exact Nat.ne_of_gt (blk_lt (g := gb175) (b_ BK175)) : gb195 ≠ gb175)); replace BK175 := A_ (blk_below (g := gb175) (b_ BK175) hb); clear hb hbox hg; have hnb53 := NB195_174.out; have hnc53 := NB174_195.out; have hnb54 := NB195_175.out; have hnc54 := NB175_195.out; obtain ⟨hcz55_0, hcz55_1, hcz55_2, hcz55_3, hcz55_4, hcz55_5, hfz55_0, hfz55_1, hfz55_2, hfz55_3, hfz55_4, hfz55_5⟩ := cf6_ BK195; obtain ⟨Ao56, co56, eo56⟩ := Kd.V_slice HO186.out; subst eo56; obtain ⟨Ao57, co57, eo57⟩ := Kd.V_slice HO189.out; subst eo57; obtain ⟨Ao58, co58, eo58⟩ := Kd.V_slice HO192.out; subst eo58))
      go_roundg k1
      case measure => have := HK1.out; omega
      case rel => exact ⟨(x5_1), (wrap64 (x15_1 + 1)), (by first | rfl | (simp; done) | (simp [*]; done)), H', ⟨by have := HK1.out; omega⟩, ⟨by (with_reducible repeat (first|apply nA_|apply nN_|apply nD_)); exact Kd.N_mono (Kd.N_far (p := ⟨gb195, 5, none⟩) (Kd.N_far (p := ⟨gb195, 4, none⟩) (Kd.N_far (p := ⟨gb195, 3, none⟩) (Kd.N_far (p := ⟨gb195, 2, none⟩) (Kd.N_far (p := ⟨gb195, 1, none⟩) (Kd.N_far (p := ⟨gb195, 0, none⟩) (Kd.N_mono HO_5.out (fun k_ hk => (⟨hk, hk.2⟩ : _ ∧ k_ ≠ gb195))) (fun _ hk => hk.2) (.int .i64 t182)) (fun _ hk => hk.2) (.int .i64 t183)) (fun _ hk => hk.2) (.slice Ao56 t184.length co56)) (fun _ hk => hk.2) (.slice Ao57 t187.length co57)) (fun _ hk => hk.2) (.slice Ao58 t190.length co58)) (fun _ hk => hk.2) (.bool t193)) (fun _ hk => ⟨hk.1.1.1, ⟨hk.1.1.2.1, hk.1.1.2.2⟩⟩)⟩, ⟨by (with_reducible repeat (first|apply vA_|apply vN_|apply vD_)); exact Kd.V_mono (Kd.V_far (p := ⟨gb195, 5, none⟩) (Kd.V_far (p := ⟨gb195, 4, none⟩) (Kd.V_far (p := ⟨gb195, 3, none⟩) (Kd.V_far (p := ⟨gb195, 2, none⟩) (Kd.V_far (p := ⟨gb195, 1, none⟩) (Kd.V_far (p := ⟨gb195, 0, none⟩) (Kd.V_mono HO_13.out (fun k_ hk => (⟨hk, hk.2⟩ : _ ∧ k_ ≠ gb195))) (fun _ hk => hk.2) (.int .i64 t182)) (fun _ hk => hk.2) (.int .i64 t183)) (fun _ hk => hk.2) (.slice Ao56 t184.length co56)) (fun _ hk => hk.2) (.slice Ao57 t187.length co57)) (fun _ hk => hk.2) (.slice Ao58 t190.length co58)) (fun _ hk => hk.2) (.bool t193)) (fun _ hk => ⟨hk.1.1.1, ⟨hk.1.1.2.1, ⟨hk.1.1.2.2.1, hk.1.1.2.2.2⟩⟩⟩)⟩, ⟨by (with_reducible repeat (first|apply vA_|apply vN_|apply vD_)); exact Kd.V_mono (Kd.V_far (p := ⟨gb195, 5, none⟩) (Kd.V_far (p := ⟨gb195, 4, none⟩) (Kd.V_far (p := ⟨gb195, 3, none⟩) (Kd.V_far (p := ⟨gb195, 2, none⟩) (Kd.V_far (p := ⟨gb195, 1, none⟩) (Kd.V_far (p := ⟨gb195, 0, none⟩) (Kd.V_mono HO_175001.out (fun k_ hk => (⟨hk, hk.2⟩ : _ ∧ k_ ≠ gb195))) (fun _ hk => hk.2) (.int .i64 t182)) (fun _ hk => hk.2) (.int .i64 t183)) (fun _ hk => hk.2) (.slice Ao56 t184.length co56)) (fun _ hk => hk.2) (.slice Ao57 t187.length co57)) (fun _ hk => hk.2) (.slice Ao58 t190.length co58)) (fun _ hk => hk.2) (.bool t193)) (fun _ hk => ⟨hk.1.1.1, ⟨hk.1.1.2.1, ⟨hk.1.1.2.2.1, hk.1.1.2.2.2⟩⟩⟩)⟩, ⟨by (with_reducible repeat (first|apply bA_|apply bN_|apply bD_)); refine blk_far ?_ NB174_195.out _; (with_reducible repeat (first|apply bA_|apply bN_|apply bD_)); refine blk_far ?_ NB174_195.out _; (with_reducible repeat (first|apply bA_|apply bN_|apply bD_)); refine blk_far ?_ NB174_195.out _; (with_reducible repeat (first|apply bA_|apply bN_|apply bD_)); refine blk_far ?_ NB174_195.out _; (with_reducible repeat (first|apply bA_|apply bN_|apply bD_)); refine blk_far ?_ NB174_195.out _; (with_reducible repeat (first|apply bA_|apply bN_|apply bD_)); refine blk_far ?_ NB174_195.out _; (with_reducible repeat (first|apply bA_|apply bN_|apply bD_)); exact BK174.out⟩, ⟨by (with_reducible repeat (first|apply bA_|apply bN_|apply bD_)); refine blk_far ?_ NB175_195.out _; (with_reducible repeat (first|apply bA_|apply bN_|apply bD_)); refine blk_far ?_ NB175_195.out _; (with_reducible repeat (first|apply bA_|apply bN_|apply bD_)); refine blk_far ?_ NB175_195.out _; (with_reducible repeat (first|apply bA_|apply bN_|apply bD_)); refine blk_far ?_ NB175_195.out _; (with_reducible repeat (first|apply bA_|apply bN_|apply bD_)); refine blk_far ?_ NB175_195.out _; (with_reducible repeat (first|apply bA_|apply bN_|apply bD_)); refine blk_far ?_ NB175_195.out _; (with_reducible repeat (first|apply bA_|apply bN_|apply bD_)); exact BK175.out⟩, ⟨hB_ w⟩⟩
     rw [if_neg c12] at H
     exact absurd H (by simp)
    rw [if_neg c11] at H
    exact absurd H (by simp)
   rw [if_neg c10] at H
   have c10b0 : decide (x15_1 < (t176.length : Int)) = false := decide_eq_false c10
   clear c10
   obtain rfl := Option.some.inj H
   go_wp2
   go_ret
   exact ⟨_, by first | rfl | (simp [errW_none, errW_some] <;> rfl) | (simp [*, errW_none, errW_some] <;> rfl), Kd.N_mono (n_ HO_5) (fun _ hk => hk.1), hB_ w⟩

end Go.Proofs.YtbpobnlkfpjijaaDoorR.Pr
end
