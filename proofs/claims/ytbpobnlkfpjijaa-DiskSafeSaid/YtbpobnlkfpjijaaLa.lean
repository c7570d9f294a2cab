import Derived.Test.YtbpobnlkfpjijaaGf
import Derived.Test.YtbpobnlkfpjijaaPr79
import Derived.Test.YtbpobnlkfpjijaaPr81
/-! What is left of a file; shown; Right answers. -/
namespace Go.Proofs.Ytbpobnlkfpjijaa.Pr
open Go.RowKit Go.Proofs.YtbpobnlkfpjijaaW.PrintWords Go.Proofs.YtbpobnlkfpjijaaW.PrintLast Go.Proofs.YtbpobnlkfpjijaaW.PrintMore
set_option linter.unusedVariables false
set_option linter.unusedSimpArgs false
/-- Each byte is one of these, or 0. -/
def Mixed (x1 x2 : ByteArray) (o : List UInt8) : Prop := ∀ (j : Nat) (v : UInt8), o[j]? = some v → v = 0 ∨ x1.data.toList[j]? = some v ∨ x2.data.toList[j]? = some v
theorem kPut_mixed (x1 x2 fr : ByteArray) (hfr : fr = x1 ∨ fr = x2) (n k : Nat) (o : List UInt8) (ho : o.length = n) (hk : k * 16 < n) (h : Mixed x1 x2 o) : Mixed x1 x2 (kPut fr n k o) := by
  unfold kPut
  split
  · rename_i hlt
    intro j v hv
    have hl1 : (o.take (k * 16)).length = k * 16 := by rw [List.length_take]; omega
    rw [Lib.size_eq] at hlt
    have hl2 : ((fr.data.toList.drop (k * 16)).take (min ((k + 1) * 16) n - k * 16)).length = min (fr.data.toList.length - k * 16) (min ((k + 1) * 16) n - k * 16) := by
      rw [List.length_take, List.length_drop]; omega
    by_cases h1 : j < k * 16
    · rw [List.append_assoc, List.getElem?_append_left (by omega), List.getElem?_take, if_pos h1] at hv
      exact h j v hv
    · by_cases h2 : j < k * 16 + min (fr.data.toList.length - k * 16) (min ((k + 1) * 16) n - k * 16)
      · rw [List.append_assoc, List.getElem?_append_right (by omega), List.getElem?_append_left (by omega), List.getElem?_take, if_pos (by omega), List.getElem?_drop, hl1, show k * 16 + (j - k * 16) = j by omega] at hv
        rcases hfr with rfl | rfl
        · exact .inr (.inl hv)
        · exact .inr (.inr hv)
      · rw [List.getElem?_append_right (by rw [List.length_append]; omega), List.length_append, hl1, hl2, List.getElem?_drop, Lib.size_eq] at hv
        rw [show k * 16 + min (fr.data.toList.length - k * 16) (min ((k + 1) * 16) n - k * 16) + (j - (k * 16 + min (fr.data.toList.length - k * 16) (min ((k + 1) * 16) n - k * 16))) = j by omega] at hv
        exact h j v hv
  · exact h
theorem kFrom_either (x1 x2 : ByteArray) (m : Int) (k : Nat) : kFrom x1 x2 m k = x1 ∨ kFrom x1 x2 m k = x2 := by
  unfold kFrom
  split
  · exact .inl rfl
  · exact .inr rfl
theorem kLoop_mixed (x1 x2 : ByteArray) (m : Int) (n : Nat) : ∀ (d k : Nat) (o : List UInt8), n - k = d → o.length = n → Mixed x1 x2 o → Mixed x1 x2 (kLoop x1 x2 m n k o) ∧ (kLoop x1 x2 m n k o).length = n
  | d, k, o, hd, ho, h => by
    by_cases hk : k * 16 < n
    · rw [kLoop_at _ _ _ _ _ _ hk]
      obtain ⟨d', rfl⟩ : ∃ d', d = d' + 1 := ⟨d - 1, by omega⟩
      exact kLoop_mixed x1 x2 m n d' (k + 1) _ (by omega) (kPut_length _ _ _ _ ho hk) (kPut_mixed x1 x2 _ (kFrom_either x1 x2 m k) n k o ho hk h)
    · rw [kLoop_end _ _ _ _ _ _ hk]
      exact ⟨h, ho⟩
theorem zeros_mixed (x1 x2 : ByteArray) (n : Nat) : Mixed x1 x2 (List.replicate n 0) := by
  intro j v hv
  rw [List.getElem?_replicate] at hv
  split at hv
  · injection hv with hv; exact .inl hv.symm
  · cases hv
/-- What is left of a file is as long as the one or the other, each byte is one of these or 0. -/
theorem keptF_mixed (x1 x2 : ByteArray) (m : Int) : Mixed x1 x2 (keptF x1 x2 m).data.toList ∧ ((keptF x1 x2 m).size = x1.size ∨ (keptF x1 x2 m).size = x2.size) := by
  unfold keptF
  split
  · exact ⟨fun j v hv => .inr (.inl hv), .inl rfl⟩
  · split
    · obtain ⟨h1, h2⟩ := kLoop_mixed x1 x2 m x1.size _ 0 (List.replicate x1.size 0) rfl (by simp) (zeros_mixed _ _ _)
      exact ⟨by simpa using h1, .inl (by rw [Lib.size_eq]; simpa using h2)⟩
    · obtain ⟨h1, h2⟩ := kLoop_mixed x1 x2 m x2.size _ 0 (List.replicate x2.size 0) rfl (by simp) (zeros_mixed _ _ _)
      exact ⟨by simpa using h1, .inr (by rw [Lib.size_eq]; simpa using h2)⟩
/-- A crash again. -/
theorem keptF_same (x : ByteArray) (m : Int) : keptF x x m = x := by
  unfold keptF
  rw [if_pos (by simp)]
theorem keptShown : keptF ⟨#[99, 100]⟩ ⟨#[97, 98]⟩ 0 = ⟨#[97, 98]⟩ := by
  unfold keptF
  rw [if_neg (by rw [ByteArray.toList_eq, ByteArray.toList_eq]; decide), if_neg (by decide), kLoop_at _ _ _ _ _ _ (by decide), kLoop_end _ _ _ _ _ _ (by decide)]
  rfl
theorem rd_nil_lt (l : List S55) (i : Nat) (h : i < l.length) : rd_T55 l (i : Int) = l[i] := by
  simp [rd_T55, List.getD_eq_getElem?_getD, List.getElem?_eq_getElem h]

theorem eq_toList {a b : ByteArray} : a.toList = b.toList ↔ a = b := by
  rw [ByteArray.toList_eq, ByteArray.toList_eq]
  constructor
  · intro h
    cases a; cases b
    simp at h
    rw [h]
  · intro h; rw [h]
theorem shown_name : disk_name.f ⟨#[102]⟩ = some true := by
  unfold disk_name.f
  rw [ByteArray.toList_eq]
  rfl
theorem shown_u1 : disk_Used.f 8 9 [] = some 0 := rfl
set_option maxRecDepth 100000 in
theorem shown_u2 : disk_Used.f 8 9 [⟨⟨#[102]⟩, ⟨#[97, 98]⟩, ⟨#[97, 98]⟩⟩] = some 2 := by decide +kernel
theorem shown_w1 : disk_Write.f 9 9 [] ⟨#[102]⟩ ⟨#[97, 98]⟩ = some (9, [⟨⟨#[102]⟩, ⟨#[97, 98]⟩, ⟨#[]⟩⟩], 0) := by
  have h1 : disk_at.f 9 [] ⟨#[102]⟩ = some (0, false) := by simp [disk_at.f, firstGe]
  unfold disk_Write.f
  rw [h1, Option.bind_some, if_neg (by decide)]
  simp only [disk_Write.j0]
  have hw : ∀ x : S55, api_File_50.f [] 0 0 [x] = some [x] := fun x => by simp [api_File_50.f]
  rw [shown_u1, Option.bind_some, shown_name, Option.bind_some, if_pos rfl, if_neg (by decide), if_neg (by decide), if_neg (by decide +kernel), hw]
  rfl
theorem shown_at (x y : ByteArray) : disk_at.f 9 [⟨⟨#[102]⟩, x, y⟩] ⟨#[102]⟩ = some (0, true) := by
  have hn : nameGe ⟨#[102]⟩ ⟨#[102]⟩ = true := by unfold nameGe; rw [ByteArray.toList_eq]; decide
  simp [disk_at.f, firstGe, hn, rd_T55]
theorem shown_sync : disk_Sync.f 9 [⟨⟨#[102]⟩, ⟨#[97, 98]⟩, ⟨#[]⟩⟩] ⟨#[102]⟩ = some (9, [⟨⟨#[102]⟩, ⟨#[97, 98]⟩, ⟨#[97, 98]⟩⟩], 0) := by
  unfold disk_Sync.f
  rw [shown_at]
  rfl
theorem shown_w2 : disk_Write.f 9 9 [⟨⟨#[102]⟩, ⟨#[97, 98]⟩, ⟨#[97, 98]⟩⟩] ⟨#[102]⟩ ⟨#[99, 100]⟩ = some (9, [⟨⟨#[102]⟩, ⟨#[99, 100]⟩, ⟨#[97, 98]⟩⟩], 0) := by
  unfold disk_Write.f
  rw [shown_at]
  rw [Option.bind_some, if_pos rfl, if_pos (by decide), if_pos (by decide)]
  simp only [disk_Write.j0]
  have hw : ∀ x y : S55, api_File_50.f [y] 0 1 [x] = some [x] := fun x y => by simp [api_File_50.f]
  rw [shown_u2, Option.bind_some, shown_name, Option.bind_some, if_pos rfl, if_pos trivial, if_neg (by decide +kernel), hw]
  rfl
theorem shown_crash : disk_Crash.f 9 [⟨⟨#[102]⟩, ⟨#[99, 100]⟩, ⟨#[97, 98]⟩⟩] [] = some (9, [⟨⟨#[102]⟩, ⟨#[97, 98]⟩, ⟨#[97, 98]⟩⟩]) := by
  unfold disk_Crash.f
  rw [if_pos ⟨by decide, by intro x hx; simp only [List.mem_singleton] at hx; subst hx; exact ⟨by decide, by decide⟩, by intro m hm; cases hm⟩]
  simp [crashAt, maskAt, keptShown]
theorem shown_true9 : tallysticklaw15_shown.f 9 = some true := by
  unfold tallysticklaw15_shown.f
  have h0 : disk_New.f 9 = some (9, []) := rfl
  simp only [h0, Option.bind_some, shown_w1, shown_sync, shown_w2, shown_crash]
  unfold disk_Read.f
  rw [shown_at]
  simp [rd_T55, ByteArray.toList_eq]
end Go.Proofs.Ytbpobnlkfpjijaa.Pr
