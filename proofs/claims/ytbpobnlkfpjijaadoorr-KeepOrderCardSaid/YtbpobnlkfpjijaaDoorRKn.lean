import Derived.Test.YtbpobnlkfpjijaaDoorRShelf
import Derived.WalkKit
import Derived.Deep.RegionHeld3
import Derived.Deep.DeepCutAuto
import Derived.Lib.Hide
import Derived.Laws.Cover1
import Derived.Lib.ItoaLen
import Derived.Sort.Grow
/-! keep.Name. -/
namespace Go.Proofs.YtbpobnlkfpjijaaDoorR
open Go.RowKit Go.Shelf Go.Sort
set_option linter.unusedVariables false
set_option linter.unusedSimpArgs false
def Tb (w : World) : Prop := Lib.TabIs Tryd.prog w "internal/strconv.uint64pow10" .u64 Lib.pow10Tab
theorem gPow : Tryd.prog.globalNamed "internal/strconv.uint64pow10" = some 1 := by kernel_rfl
theorem tb_below {w w' : World} (h : Tb w) (hb : Below w.heap.size w w') : Tb w' := by
  unfold Tb Lib.TabIs World.var? at *
  rw [gPow] at *
  simp only [Option.bind_some] at *
  cases hg : w.heap[1]? with
  | none => rw [hg] at h; cases h
  | some o =>
    rw [hb.block 1 (Array.getElem?_eq_some_iff.1 hg).1]
    exact h
/-- A number's text. -/
def numS (n : Int) : ByteArray := ⟨(Lib.itoa n).toArray⟩
def nameL (n m : Int) : List UInt8 := [99] ++ (Lib.itoa n ++ ([45] ++ Lib.itoa m))
def nameS (n m : Int) : ByteArray := ⟨(nameL n m).toArray⟩
theorem itoa_calls (n : Int) (h0 : 0 ≤ n) (h1 : n ≤ 9223372036854775807) (w : World) (ht : Tb w) :
    Calls Tryd.prog 12 #[.int .i64 n] w fun e w' => e = .returned (.string (numS n)) ∧ Below w.heap.size w w' := by
  refine (Tryd.strconv_Itoa n (by omega) h1 w ht).mono ?_
  rintro e w' ⟨rfl, k, os, rfl⟩
  refine ⟨rfl, ⟨rfl, rfl, rfl, by simp [grow], fun i hi => ?_⟩⟩
  show ((w.drewN k).heap ++ os)[i]? = (w.drewN k).heap[i]?
  exact Array.getElem?_append_left hi
theorem joined_calls (bk c : Nat) (n m : Int) (h0 : 0 ≤ n) (h1 : n ≤ 9223372036854775807) (g0 : 0 ≤ m) (g1 : m ≤ 9223372036854775807) (w : World) (hb : w.heap[bk]? = some (.cells #[.string ⟨#[99]⟩, .string (numS n), .string ⟨#[45]⟩, .string (numS m)] 9 (0, 0))) (hc : 4 ≤ c) :
    Calls Tryd.prog 11 #[.slice (some ⟨bk, 0, none⟩) 4 c] w fun e w' => e = .returned (.string (nameS n m)) ∧ Below w.heap.size w w' := by
  have hj : Lib.join ([⟨#[99]⟩, numS n, ⟨#[45]⟩, numS m].map (·.data.toList)) (⟨#[]⟩ : ByteArray).data.toList = nameL n m := by
    simp [Lib.join, numS, nameL, List.intercalate, List.intersperse]
  have hl := Lib.itoa_length_le n (by omega) h1
  have hl2 := Lib.itoa_length_le m (by omega) g1
  have hJ := Tryd.strings_Join bk 0 c [⟨#[99]⟩, numS n, ⟨#[45]⟩, numS m] ⟨#[]⟩ w (by
    intro j x hx
    have hj4 : j < 4 := by have := (List.getElem?_eq_some_iff.1 hx).1; simpa using this
    rcases (show j = 0 ∨ j = 1 ∨ j = 2 ∨ j = 3 by omega) with rfl | rfl | rfl | rfl <;> (simp at hx; subst hx; simp [World.cell?, hb])) (Array.getElem?_eq_some_iff.1 hb).1 (by simp) (by simpa using hc) (by rw [hj]; simp [nameL]; omega)
  rw [hj] at hJ
  have HJ := Lib.hid hJ
  clear hJ hj
  go_enter Tryd.func11, Tryd.ntmps11
  go_wp2_with fail
  refine HJ.out.mono ?_
  rintro e w' ⟨rfl, hb⟩
  go_wp2
  go_ret
  exact ⟨rfl, hb⟩
/-- What the region of keep.Name reads: kept by what makes memory alone. -/
theorem alloc_below (W : World) (o : Obj) : Below W.heap.size W (W.alloc o) := (Below.refl _ _).alloc (Nat.le_refl _) _
theorem hold_step {n m : Int} {w W W1 : World} (h : W.cell? ⟨w.heap.size, 0, none⟩ = some (.int .i64 n) ∧ W.cell? ⟨w.heap.size, 1, none⟩ = some (.int .i64 m) ∧ Tb W ∧ Below w.heap.size w W) (hb : Below W.heap.size W W1) :
    W1.cell? ⟨w.heap.size, 0, none⟩ = some (.int .i64 n) ∧ W1.cell? ⟨w.heap.size, 1, none⟩ = some (.int .i64 m) ∧ Tb W1 ∧ Below w.heap.size w W1 := by
  have hlt := World.block_lt_of_cell? W _ h.1
  have hlt1 := World.block_lt_of_cell? W _ h.2.1
  exact ⟨(hb.cell hlt).trans h.1, (hb.cell hlt1).trans h.2.1, tb_below h.2.2.1 hb, h.2.2.2.trans (hb.mono h.2.2.2.size)⟩
theorem hold_bel {p q r : Prop} {B : Nat} {w W : World} (h : p ∧ q ∧ r ∧ Below B w W) : Below B w W := h.2.2.2
theorem hold_tb {p q r : Prop} {W : World} (h : p ∧ q ∧ Tb W ∧ r) : Tb W := h.2.2.1
set_option maxRecDepth 100000 in
set_option maxHeartbeats 4000000 in
theorem name_calls (n m : Int) (h0 : 0 ≤ n) (h1 : n ≤ 9223372036854775807) (g0 : 0 ≤ m) (g1 : m ≤ 9223372036854775807) (w : World) (ht : Tb w) :
    Calls Tryd.prog 6 #[.agg #[.int .i64 n, .int .i64 m]] w fun e w' => e = .returned (.string (nameS n m)) ∧ Below w.heap.size w w' := by
  have hn : ¬ n < 0 := by omega
  have hm : ¬ m < 0 := by omega
  have hmx : max n 0 = n := by omega
  have hmy : max m 0 = m := by omega
  obtain ⟨W, hW⟩ : ∃ W, w.alloc (.cells #[.int .i64 n, .int .i64 m] 23) = W := ⟨_, rfl⟩
  have hB0 : Below w.heap.size w W := by rw [← hW]; exact (Below.refl _ _).alloc (Nat.le_refl _) _
  have hc0 : W.cell? ⟨w.heap.size, 0, none⟩ = some (.int .i64 n) := by subst hW; go_simp
  have hc1 : W.cell? ⟨w.heap.size, 1, none⟩ = some (.int .i64 m) := by subst hW; go_simp
  have hT := tb_below ht hB0
  go_enter Tryd.func6, Tryd.ntmps6
  go_wp2_with fail
  clear hW
  go_region_held3 (fun w' => w'.cell? ⟨w.heap.size, 0, none⟩ = some (.int .i64 n) ∧ w'.cell? ⟨w.heap.size, 1, none⟩ = some (.int .i64 m) ∧ Tb w' ∧ Below w.heap.size w w')
    (first | exact ⟨hc0, hc1, hT, hB0.drew⟩ | assumption | exact hold_step (by assumption) hb | exact hold_step (by assumption) (alloc_below _ _) | (trace_state; fail))
    (first | (go_at_call 12; refine (itoa_calls _ (by omega) (by omega) _ (by first | assumption | exact hold_tb (by assumption))).mono ?_; rintro e w1 ⟨rfl, hb⟩) | (go_at_call 11; refine (joined_calls _ 4 n m h0 h1 g0 g1 _ (heap_alloc_new _ _) (Nat.le_refl _)).mono ?_; rintro e w1 ⟨rfl, hb⟩))
  all_goals
    try go_wp2
    go_ret
    exact ⟨rfl, hold_bel (by assumption)⟩
end Go.Proofs.YtbpobnlkfpjijaaDoorR
