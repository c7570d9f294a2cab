import Derived.Test.YtbpobnlkfpjijaaPr0
import Derived.Laws.Cover1
import Derived.Lib.Hide
/-! disk.at. -/
namespace Go.Proofs.Ytbpobnlkfpjijaa.Pr
open Go.RowKit Go.Proofs.YtbpobnlkfpjijaaW.PrintWords Go.Proofs.YtbpobnlkfpjijaaW.PrintLast Go.Proofs.YtbpobnlkfpjijaaW.PrintMore
set_option linter.unusedVariables false
set_option linter.unusedSimpArgs false
attribute [local go_sem] max2_int min2_int max_two min_two max_three min_three max_four min_four Go.Proofs.Aid.cell_set_row
/-- Is a name not below s? -/
def nameGe (s x : ByteArray) : Bool := !(Op.bytesLess x.toList s.toList)
theorem at1_calls (x0 x1 x2 s : ByteArray) (B : Nat) (w : World) (hs : w.cell? ⟨B, 0, none⟩ = some (.string s)) :
    Calls Try.prog 66 #[.agg #[.string x0, .string x1, .string x2], .pointer (some ⟨B, 0, none⟩)] w fun e w' => e = .returned (.bool (nameGe s x0)) ∧ Below w.heap.size w w' := by
  have hB := World.block_lt_of_cell? w _ hs
  have hs2 : (w.alloc (.cells #[.string x0, .string x1, .string x2] 55)).cell? ⟨B, 0, none⟩ = some (.string s) := by
    rw [World.cell?_alloc_lt _ _ _ hB]; exact hs
  go_enter Try.func66, Try.ntmps66
  go_wp2
  go_ret
  exact ⟨rfl, below_alloc (Below.refl _ _) _⟩
/-- From i on: the first place of a name not below s, or -1. -/
def firstGe (s : ByteArray) : List S55 → Nat → Int
  | [], _ => -1
  | x :: l, i => if nameGe s x.f0 then (i : Int) else firstGe s l (i + 1)
theorem rd_drop (l : List S55) (k : Nat) (h : k < l.length) : l.drop k = rd_T55 l (k : Int) :: l.drop (k + 1) := by
  rw [List.drop_eq_getElem_cons h]
  simp [rd_T55, List.getD_eq_getElem?_getD, List.getElem?_eq_getElem h]
set_option maxRecDepth 100000 in
set_option maxHeartbeats 2000000 in
theorem indexFunc_calls (A : Option Addr) (c : Nat) (l : List S55) (s : ByteArray) (B : Nat) (w : World) (hC : Kd.C k55 w A l.length l) (hc : l.length ≤ c) (hs : w.cell? ⟨B, 0, none⟩ = some (.string s)) :
    Calls Try.prog 65 #[.slice A l.length c, .func (.func 66) #[] #[.pointer (some ⟨B, 0, none⟩)]] w fun e w' => e = .returned (.int .i64 (firstGe s l 0)) ∧ Below w.heap.size w w' := by
  have hm : l.length ≤ 9223372036854775807 := hC.2.1
  have hB := World.block_lt_of_cell? w _ hs
  go_enter Try.func65, Try.ntmps65
  go_wp2
  go_loopw [8] (fun i wr => ∃ k : Nat, k ≤ l.length ∧ i = .int .i64 k ∧ firstGe s l 0 = firstGe s (l.drop k) k ∧ Below w.heap.size w wr) (fun i _ => l.length - (intOf i).toNat)
  case atStart => exact ⟨0, Nat.zero_le _, rfl, rfl, Below.refl _ _⟩
  case round =>
    obtain ⟨k, hk, rfl, he, hb⟩ := hrel
    by_cases hlt : k < l.length
    · obtain ⟨ad, rfl, hx0, hx1, hx2⟩ := at_T55 hC (k : Int) (by omega) (by omega)
      rw [Int.toNat_natCast] at hx0 hx1 hx2
      replace hx0 := (hb.cell (World.block_lt_of_cell? w _ hx0)).trans hx0
      replace hx1 := (hb.cell (World.block_lt_of_cell? w _ hx1)).trans hx1
      replace hx2 := (hb.cell (World.block_lt_of_cell? w _ hx2)).trans hx2
      have hs2 := (hb.cell hB).trans hs
      rw [rd_drop l k hlt] at he
      have HE := Lib.hid he
      clear he
      cases hg : nameGe s (rd_T55 l (k : Int)).f0 with
      | true =>
        have HG := Lib.hid hg
        clear hg
        go_wp2_with fail
        refine (at1_calls _ _ _ s B wr hs2).mono ?_
        rw [HG.out]
        rintro e w1 ⟨rfl, hb1⟩
        go_wp2
        go_ret
        exact ⟨by rw [HE.out]; unfold firstGe; rw [if_pos HG.out]; rfl, below_then hb hb.size hb1⟩
      | false =>
        have HG := Lib.hid hg
        clear hg
        go_wp2_with fail
        refine (at1_calls _ _ _ s B wr hs2).mono ?_
        rw [HG.out]
        rintro e w1 ⟨rfl, hb1⟩
        go_wp2
        go_roundw
        case rel => exact ⟨k + 1, by omega, by go_num, by rw [HE.out]; conv => lhs; unfold firstGe; rw [if_neg (by rw [HG.out]; decide)], below_then hb hb.size hb1⟩
        case measure => simp [intOf]; omega
    · obtain rfl : k = l.length := by omega
      rw [List.drop_length] at he
      have HE := Lib.hid he
      clear he
      go_wp2
      go_ret
      exact ⟨by rw [HE.out]; rfl, hb⟩
theorem firstGe_range (s : ByteArray) : ∀ (l : List S55) (i : Nat), firstGe s l i = -1 ∨ ((i : Int) ≤ firstGe s l i ∧ firstGe s l i < i + l.length)
  | [], _ => .inl rfl
  | x :: l, i => by
    unfold firstGe
    split
    · exact .inr ⟨Int.le_refl _, by simp only [List.length_cons]; omega⟩
    · rcases firstGe_range s l (i + 1) with h | h
      · exact .inl h
      · exact .inr ⟨by omega, by simp only [List.length_cons]; omega⟩
/-- disk.at: the place of a name, or where it would stand; is it there. -/
def disk_at.f (a0_0 : Int) (l0_1 : List (S55)) (a1 : ByteArray) : Option (Int × Bool) :=
  some (if firstGe a1 l0_1 0 < 0 then ((l0_1.length : Int), false) else (firstGe a1 l0_1 0, (rd_T55 l0_1 (firstGe a1 l0_1 0)).f0.toList == a1.toList))
set_option maxRecDepth 100000 in
set_option maxHeartbeats 4000000 in
theorem disk_at.calls (a0_0 : Int) (A0_1 : Option Addr) (c0_1 : Nat) (l0_1 : List (S55)) (a1 : ByteArray) (r1 : Int) (r2 : Bool) (w : World) (hr0_1 : Kd.C k55 w A0_1 l0_1.length l0_1) (hc0_1 : l0_1.length ≤ c0_1) (h : disk_at.f a0_0 l0_1 a1 = some (r1, r2)) :
    Calls Try.prog 48 #[.agg #[.int .i64 a0_0, .slice A0_1 l0_1.length c0_1], .string a1] w fun e w' => e = .returned (.tuple #[.int .i64 r1, .bool r2]) ∧ Below w.heap.size w w' := by
  have hm : l0_1.length ≤ 9223372036854775807 := hr0_1.2.1
  unfold disk_at.f at h
  simp only [Option.some.injEq] at h
  have HR := Lib.hid hr0_1
  clear hr0_1
  rcases firstGe_range a1 l0_1 0 with hf | hf
  · rw [hf] at h
    simp at h
    obtain ⟨rfl, rfl⟩ := h
    have HF := Lib.hid hf
    clear hf
    obtain ⟨W, hW⟩ : ∃ W, (w.alloc (.cells #[.int .i64 a0_0, .slice A0_1 l0_1.length c0_1] 46)).alloc (.cells #[.string a1] 9) = W := ⟨_, rfl⟩
    have hbW : Below w.heap.size w W := by rw [← hW]; exact ((Below.refl _ _).alloc (Nat.le_refl _) _).alloc (by simp) _
    have hd0 : W.cell? ⟨w.heap.size, 0, none⟩ = some (.int .i64 a0_0) := by subst hW; go_simp
    have hd1 : W.cell? ⟨w.heap.size, 1, none⟩ = some (.slice A0_1 l0_1.length c0_1) := by subst hW; go_simp
    have hs1 : W.cell? ⟨w.heap.size + 1, 0, none⟩ = some (.string a1) := by subst hW; go_simp
    have HC := Lib.hid (Kd.C_below HR.out hbW)
    go_enter Try.func48, Try.ntmps48
    go_wp2_with fail

    clear hW
    refine (indexFunc_calls A0_1 c0_1 l0_1 a1 _ _ HC.out hc0_1 hs1).mono ?_
    rw [HF.out]
    rintro e w1 ⟨rfl, hb1⟩
    have hB1 : Below w.heap.size w w1 := below_then hbW hbW.size hb1
    replace hd0 := (hb1.cell (World.block_lt_of_cell? _ _ hd0)).trans hd0
    replace hd1 := (hb1.cell (World.block_lt_of_cell? _ _ hd1)).trans hd1
    replace hs1 := (hb1.cell (World.block_lt_of_cell? _ _ hs1)).trans hs1
    have HB1 := Lib.hid hB1
    clear hB1 hb1 hbW
    go_wp2
    go_quiet (fail)
    go_wp2
    go_ret2
    exact ⟨by simp, pw_below_drewN HB1.out _⟩
  · obtain ⟨k, hk⟩ := Int.eq_ofNat_of_zero_le (show 0 ≤ firstGe a1 l0_1 0 by omega)
    rw [hk] at h hf
    rw [if_neg (by omega)] at h
    simp only [Prod.mk.injEq] at h
    obtain ⟨rfl, hr2⟩ := h
    have hlt : k < l0_1.length := by omega
    have HF := Lib.hid hk
    clear hk hf
    obtain ⟨ad, rfl, hx0, hx1, hx2⟩ := at_T55 HR.out (k : Int) (by omega) (by omega)
    rw [Int.toNat_natCast] at hx0
    clear hx1 hx2
    have HX := Lib.hid hx0
    clear hx0
    obtain ⟨W, hW⟩ : ∃ W, (w.alloc (.cells #[.int .i64 a0_0, .slice (some ad) l0_1.length c0_1] 46)).alloc (.cells #[.string a1] 9) = W := ⟨_, rfl⟩
    have hbW : Below w.heap.size w W := by rw [← hW]; exact ((Below.refl _ _).alloc (Nat.le_refl _) _).alloc (by simp) _
    have hd0 : W.cell? ⟨w.heap.size, 0, none⟩ = some (.int .i64 a0_0) := by subst hW; go_simp
    have hd1 : W.cell? ⟨w.heap.size, 1, none⟩ = some (.slice (some ad) l0_1.length c0_1) := by subst hW; go_simp
    have hs1 : W.cell? ⟨w.heap.size + 1, 0, none⟩ = some (.string a1) := by subst hW; go_simp
    have HC := Lib.hid (Kd.C_below HR.out hbW)
    go_enter Try.func48, Try.ntmps48
    go_wp2_with fail

    clear hW
    refine (indexFunc_calls (some ad) c0_1 l0_1 a1 _ _ HC.out hc0_1 hs1).mono ?_
    rw [HF.out]
    rintro e w1 ⟨rfl, hb1⟩
    have hB1 : Below w.heap.size w w1 := below_then hbW hbW.size hb1
    replace hd0 := (hb1.cell (World.block_lt_of_cell? _ _ hd0)).trans hd0
    replace hd1 := (hb1.cell (World.block_lt_of_cell? _ _ hd1)).trans hd1
    replace hs1 := (hb1.cell (World.block_lt_of_cell? _ _ hs1)).trans hs1
    have HB1 := Lib.hid hB1
    clear hB1 hb1 hbW
    have hx := (HB1.out.cell (World.block_lt_of_cell? w _ HX.out)).trans HX.out
    have HR2 := Lib.hid hr2
    clear hr2
    go_wp2
    go_quiet (fail)
    go_wp2
    go_ret2
    exact ⟨by rw [← HR2.out]; simp, pw_below_drewN HB1.out _⟩
end Go.Proofs.Ytbpobnlkfpjijaa.Pr
