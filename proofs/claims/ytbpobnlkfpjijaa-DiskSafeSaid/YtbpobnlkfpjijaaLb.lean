import Derived.Test.YtbpobnlkfpjijaaLa
/-! Right answers. -/
namespace Go.Proofs.Ytbpobnlkfpjijaa.Pr
open Go.RowKit Go.Proofs.YtbpobnlkfpjijaaW.PrintWords Go.Proofs.YtbpobnlkfpjijaaW.PrintLast Go.Proofs.YtbpobnlkfpjijaaW.PrintMore
set_option linter.unusedVariables false
set_option linter.unusedSimpArgs false
theorem leo_up {α : Type} {f : Nat → Option α} (h : ∀ k, LeO (f k) (f (k + 1))) {a : Nat} {r : α} (ha : f a = some r) : ∀ b, a ≤ b → f b = some r := by
  intro b hb
  obtain ⟨d, rfl⟩ : ∃ d, b = a + d := ⟨b - a, by omega⟩
  clear hb
  induction d with
  | zero => exact ha
  | succ d ih => exact h _ _ ih
theorem shown_true (k : Nat) (hk : 9 ≤ k) : tallysticklaw15_shown.f k = some true := leo_up tallysticklaw15_shown.mono shown_true9 k hk
theorem name_total (x : ByteArray) : ∃ b, tallystickref15_name.f x = some b := by
  unfold tallystickref15_name.f
  split
  · exact ⟨_, rfl⟩
  · exact ⟨_, rfl⟩
theorem right_loop (a : Int) (l : List S55) (hl : l.length ≤ 64) : ∀ (d i : Nat), l.length - i = d → i ≤ l.length → ∃ b, tallystickref15_Right.l0 (d + 1) (i : Int) a l = some b
  | d, i, hd, hi => by
    unfold tallystickref15_Right.l0
    by_cases h : (i : Int) < (l.length : Int)
    · obtain ⟨b, hb⟩ := name_total (rd_T55 l (i : Int)).f0
      have hw : wrap64 ((i : Int) + 1) = ((i + 1 : Nat) : Int) := by unfold wrap64; omega
      obtain ⟨d', rfl⟩ : ∃ d', d = d' + 1 := ⟨d - 1, by omega⟩
      have ih := right_loop a l hl d' (i + 1) (by omega) (by omega)
      rw [if_pos h, if_pos (by omega), hb, Option.bind_some, hw]
      cases b with
      | false => exact ⟨_, rfl⟩
      | true =>
        rw [if_pos rfl]
        split
        · rw [if_pos (by unfold wrap64; omega), if_pos (by unfold wrap64; omega)]
          split
          · exact ih
          · exact ⟨_, rfl⟩
        · exact ih
    · rw [if_neg h]
      exact ⟨_, rfl⟩
theorem right_total (a : Int) (l : List S55) : ∃ b, (∀ k, 70 ≤ k → tallystickref15_Right.f k a l = some b) ∧ (b = true → l.length ≤ 64 ∧ 0 ≤ a) := by
  suffices h : ∃ b, tallystickref15_Right.f 70 a l = some b ∧ (b = true → l.length ≤ 64 ∧ 0 ≤ a) by
    obtain ⟨b, h1, h2⟩ := h
    exact ⟨b, fun k hk => leo_up (f := fun k => tallystickref15_Right.f k a l) (tallystickref15_Right.mono a l) h1 k hk, h2⟩
  unfold tallystickref15_Right.f
  split
  · exact ⟨false, by simp [tallystickref15_Right.j0], by simp⟩
  · by_cases h : (l.length : Int) > 64
    · exact ⟨false, by simp [tallystickref15_Right.j0, h], by simp⟩
    · obtain ⟨b, hb⟩ := right_loop a l (by omega) l.length 0 (by omega) (by omega)
      have hb2 := leo_up (f := fun k => tallystickref15_Right.l0 k 0 a l) (fun k => (tallystickref15_Right.mono_l k).2 0 a l) hb 69 (by omega)
      refine ⟨b, ?_, fun _ => ⟨by omega, by omega⟩⟩
      rw [decide_eq_false h]
      show tallystickref15_Right.j0 (69 + 1) false a l = some b
      unfold tallystickref15_Right.j0
      dsimp only
      rw [if_neg (by decide)]
      exact hb2
theorem bt_get (x : ByteArray) (k : Nat) (h : k < x.size) : ∃ v : UInt8, x.data.toList[k]? = some v ∧ bt x (k : Int) = (v.toNat : Int) := by
  refine ⟨x[k], ?_, ?_⟩
  · have : k < x.data.toList.length := by rw [← Lib.size_eq]; exact h
    rw [List.getElem?_eq_getElem this]
    rfl
  · unfold bt
    rw [dif_pos (by simpa using h)]
    rfl
theorem bt_of (x : ByteArray) (k : Nat) (v : UInt8) (h : x.data.toList[k]? = some v) : k < x.size ∧ bt x (k : Int) = (v.toNat : Int) := by
  have h1 : k < x.size := by
    rw [Lib.size_eq]
    exact (List.getElem?_eq_some_iff.1 h).1
  obtain ⟨u, hu, hb⟩ := bt_get x k h1
  rw [hu] at h
  injection h with h
  exact ⟨h1, by rw [hb, h]⟩
theorem rd_mapIdx (ms : List Int) (l : List S55) (i : Nat) (h : i < l.length) : rd_T55 (l.mapIdx (crashAt ms)) (i : Int) = crashAt ms i (rd_T55 l (i : Int)) := by
  rw [rd_nil_lt _ _ (by simpa using h), rd_nil_lt _ _ h]
  simp
/-- The bounds of what comes in. -/
def Fits (l : List S55) (ms : List Int) : Prop := (∀ x ∈ l, x.f1.size ≤ 140737488351232 ∧ x.f2.size ≤ 140737488351232) ∧ (∀ m ∈ ms, 0 ≤ m ∧ m < 18446744073709551616)
theorem crash_some (a : Int) (l : List S55) (ms : List Int) (hl : l.length ≤ 64) (h : Fits l ms) : disk_Crash.f a l ms = some (a, l.mapIdx (crashAt ms)) := by
  unfold disk_Crash.f
  rw [if_pos ⟨by omega, h.1, h.2⟩]
end Go.Proofs.Ytbpobnlkfpjijaa.Pr
