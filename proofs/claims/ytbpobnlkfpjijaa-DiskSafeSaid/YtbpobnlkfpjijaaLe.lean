import Derived.Test.YtbpobnlkfpjijaaLd
import Derived.Test.YtbpobnlkfpjijaaPr89
import Derived.Laws.Bits64b
/-! What is left of a file, byte by byte; all bits set; two rows that are the same. -/
namespace Go.Proofs.Ytbpobnlkfpjijaa.Pr
open Go.RowKit Go.Proofs.YtbpobnlkfpjijaaW.PrintWords Go.Proofs.YtbpobnlkfpjijaaW.PrintLast Go.Proofs.YtbpobnlkfpjijaaW.PrintMore
set_option linter.unusedVariables false
set_option linter.unusedSimpArgs false
/-- Byte j of what is left. -/
def srcAt (x1 x2 : ByteArray) (m : Int) (j : Nat) : UInt8 := ((kFrom x1 x2 m (j / 16)).data.toList[j]?).getD 0
theorem kPut_get (fr : ByteArray) (n k : Nat) (o : List UInt8) (ho : o.length = n) (hk : k * 16 < n) (j : Nat) :
    (kPut fr n k o)[j]? = if k * 16 ≤ j ∧ j < (k + 1) * 16 ∧ j < n ∧ j < fr.data.toList.length then fr.data.toList[j]? else o[j]? := by
  unfold kPut
  rw [Lib.size_eq]
  split
  · rename_i hlt
    have hl1 : (o.take (k * 16)).length = k * 16 := by rw [List.length_take]; omega
    have hl2 : ((fr.data.toList.drop (k * 16)).take (min ((k + 1) * 16) n - k * 16)).length = min (fr.data.toList.length - k * 16) (min ((k + 1) * 16) n - k * 16) := by
      rw [List.length_take, List.length_drop]; omega
    by_cases h1 : j < k * 16
    · rw [List.append_assoc, List.getElem?_append_left (by omega), List.getElem?_take, if_pos h1, if_neg (by omega)]
    · by_cases h2 : j < k * 16 + min (fr.data.toList.length - k * 16) (min ((k + 1) * 16) n - k * 16)
      · rw [List.append_assoc, List.getElem?_append_right (by omega), List.getElem?_append_left (by omega), List.getElem?_take, if_pos (by omega), List.getElem?_drop, hl1, show k * 16 + (j - k * 16) = j by omega, if_pos (by omega)]
      · rw [List.getElem?_append_right (by rw [List.length_append]; omega), List.length_append, hl1, hl2, List.getElem?_drop, if_neg (by omega)]
        congr 1
        omega
  · rw [if_neg (by omega)]
theorem kLoop_get (x1 x2 : ByteArray) (m : Int) (n : Nat) : ∀ (d k : Nat) (o : List UInt8), n - k = d → o.length = n → (∀ j, k * 16 ≤ j → j < n → o[j]? = some 0) → ∀ j, (kLoop x1 x2 m n k o)[j]? = if j < k * 16 then o[j]? else if j < n then some (srcAt x1 x2 m j) else none
  | d, k, o, hd, ho, h, j => by
    by_cases hk : k * 16 < n
    · obtain ⟨d', rfl⟩ : ∃ d', d = d' + 1 := ⟨d - 1, by omega⟩
      rw [kLoop_at _ _ _ _ _ _ hk, kLoop_get x1 x2 m n d' (k + 1) _ (by omega) (kPut_length _ _ _ _ ho hk) (fun i hi hn => by rw [kPut_get _ _ _ _ ho hk, if_neg (by omega)]; exact h i (by omega) hn) j]
      rw [kPut_get _ _ _ _ ho hk]
      by_cases h1 : j < k * 16
      · rw [if_pos (by omega), if_neg (by omega), if_pos h1]
      · rw [if_neg h1]
        by_cases h2 : j < (k + 1) * 16
        · rw [if_pos h2]
          by_cases h3 : j < n
          · rw [if_pos h3]
            have hjk : j / 16 = k := by omega
            unfold srcAt
            rw [hjk]
            by_cases h4 : j < (kFrom x1 x2 m k).data.toList.length
            · rw [if_pos (by omega), List.getElem?_eq_getElem h4]; rfl
            · rw [if_neg (by omega), h j (by omega) h3, List.getElem?_eq_none (by omega)]; rfl
          · rw [if_neg h3, if_neg (by omega), List.getElem?_eq_none (by omega)]
        · rw [if_neg h2]
    · rw [kLoop_end _ _ _ _ _ _ hk]
      by_cases h1 : j < k * 16
      · rw [if_pos h1]
      · rw [if_neg h1, if_neg (by omega), List.getElem?_eq_none (by omega)]
theorem kLoop_map (x1 x2 : ByteArray) (m : Int) (n : Nat) : kLoop x1 x2 m n 0 (List.replicate n 0) = (List.range n).map (srcAt x1 x2 m) := by
  apply List.ext_getElem?
  intro j
  rw [kLoop_get x1 x2 m n n 0 _ (by omega) (by simp) (fun i _ hi => by rw [List.getElem?_replicate, if_pos hi]), if_neg (by omega)]
  by_cases h : j < n
  · rw [if_pos h]; simp [h]
  · rw [if_neg h, List.getElem?_eq_none (by rw [List.length_map, List.length_range]; omega)]
/-- A mask's bit. -/
theorem bit_is (M k : Nat) (hM : M < 18446744073709551616) : (bits BinOp.and IntKind.u64 ((M : Int) / 2 ^ k) 1 == 1) = decide (M / 2 ^ k % 2 = 1) := by
  have h1 : ((M : Int) / 2 ^ k) = ((M / 2 ^ k : Nat) : Int) := by simp
  have h2 : M / 2 ^ k < 18446744073709551616 := Nat.lt_of_le_of_lt (Nat.div_le_self _ _) hM
  have h3 : bits BinOp.and IntKind.u64 ((M / 2 ^ k : Nat) : Int) ((1 : Nat) : Int) = ((M / 2 ^ k &&& 1 : Nat) : Int) := bits_and_u64_nat _ _ h2 (by decide)
  rw [h1]
  rw [show (1 : Int) = ((1 : Nat) : Int) from rfl, h3, Nat.and_one_is_mod]
  by_cases h : M / 2 ^ k % 2 = 1
  · rw [h]; rfl
  · rw [decide_eq_false h]
    have : M / 2 ^ k % 2 = 0 := by omega
    rw [this]; rfl
theorem bit_zero (M : Nat) (hM : M < 18446744073709551616) : (bits BinOp.and IntKind.u64 (M : Int) 1 == 1) = decide (M % 2 = 1) := by
  have := bit_is M 0 hM
  simpa using this
/-- All bits set: what was written. -/
theorem keptF_all (x1 x2 : ByteArray) : keptF x1 x2 18446744073709551615 = x1 := by
  unfold keptF
  split
  · rfl
  · have hb : ∀ k, k ≤ 63 → (18446744073709551615 / 2 ^ k % 2 : Nat) = 1 := by decide +kernel
    have h0 := bit_zero 18446744073709551615 (by decide)
    have h0' : (bits BinOp.and IntKind.u64 18446744073709551615 1 == 1) = true := by
      rw [show (18446744073709551615 : Int) = ((18446744073709551615 : Nat) : Int) from rfl, h0]; decide
    rw [if_pos h0', kLoop_map]
    have hk : ∀ k, kFrom x1 x2 18446744073709551615 k = x1 := by
      intro k
      unfold kFrom
      have h1 := bit_is 18446744073709551615 (1 + k % 63) (by decide)
      rw [hb _ (by omega)] at h1
      rw [if_pos]
      rw [show (18446744073709551615 : Int) = ((18446744073709551615 : Nat) : Int) from rfl, h1]
      decide
    have : (List.range x1.size).map (srcAt x1 x2 18446744073709551615) = x1.data.toList := by
      apply List.ext_getElem?
      intro j
      rw [List.getElem?_map]
      by_cases h : j < x1.size
      · have hl : j < x1.data.toList.length := by rw [← Lib.size_eq]; exact h
        rw [List.getElem?_range h, List.getElem?_eq_getElem hl]
        simp only [Option.map_some, srcAt, hk, List.getElem?_eq_getElem hl, Option.getD_some]
      · rw [List.getElem?_eq_none (by simpa using h), List.getElem?_eq_none (by rw [← Lib.size_eq]; omega)]; rfl
    rw [this]
/-- slices.Equal of a row and itself. -/
theorem equal_loop (l : List S55) : ∀ (d i k : Nat), l.length - i = d → i ≤ l.length → l.length ≤ 1048576 → d < k → api_File_47.l0 k l l (l.length : Int) (i : Int) = some true
  | d, i, 0, _, _, _, hk => by omega
  | d, i, k + 1, hd, hi, hl, hk => by
    unfold api_File_47.l0
    by_cases h : (i : Int) < (l.length : Int)
    · have hw : wrap64 ((i : Int) + 1) = ((i + 1 : Nat) : Int) := by unfold wrap64; omega
      rw [if_pos h, if_pos (by omega), if_pos h, if_pos h, if_neg (by simp), hw]
      exact equal_loop l (d - 1) (i + 1) k (by omega) (by omega) hl (by omega)
    · rw [if_neg h]
theorem same_self (a : Int) (l : List S55) (hl : l.length ≤ 1048576) (k : Nat) (hk : l.length < k) : disk_Same.f k a l a l = some true := by
  unfold disk_Same.f api_File_47.f
  rw [if_pos rfl, if_pos rfl]
  have := equal_loop l l.length 0 k (by omega) (by omega) hl hk
  rw [show ((0 : Nat) : Int) = 0 from rfl] at this
  rw [this]
  rfl
/-- A crash of what is left of a crash. -/
theorem crash_twice (ms ns : List Int) (l : List S55) : (l.mapIdx (crashAt ms)).mapIdx (crashAt ns) = l.mapIdx (crashAt ms) := by
  rw [List.mapIdx_mapIdx]
  congr 1
  funext i x
  simp [crashAt, keptF_same]
theorem crash_fits {l : List S55} {ms ns : List Int} (h : Fits l ms) (hn : ∀ m ∈ ns, 0 ≤ m ∧ m < 18446744073709551616) : Fits (l.mapIdx (crashAt ms)) ns := by
  refine ⟨fun x hx => ?_, hn⟩
  obtain ⟨i, hi, rfl⟩ := List.mem_mapIdx.1 hx
  have hs := (keptF_mixed (l[i]).f1 (l[i]).f2 (maskAt ms i)).2
  have hb := h.1 l[i] (List.getElem_mem _)
  simp only [crashAt]
  omega
end Go.Proofs.Ytbpobnlkfpjijaa.Pr
