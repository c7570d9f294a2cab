import Derived.Test.YtbpobnlkfpjijaaLe
import Derived.Test.YtbpobnlkfpjijaaPr86
/-! DiskCrashes is true: the document's crash is the program's. -/
namespace Go.Proofs.Ytbpobnlkfpjijaa.Pr
open Go.RowKit Go.Proofs.YtbpobnlkfpjijaaW.PrintWords Go.Proofs.YtbpobnlkfpjijaaW.PrintLast Go.Proofs.YtbpobnlkfpjijaaW.PrintMore
set_option linter.unusedVariables false
set_option linter.unusedSimpArgs false
theorem bit_ref : ∀ (j k M : Nat), M < 18446744073709551616 → j < 1000 → j < k → tallystickref15_bit.l0 k (M : Int) (j : Int) = some (decide (M / 2 ^ j % 2 = 1))
  | j, 0, M, _, _, hk => by omega
  | 0, k + 1, M, hM, hj, hk => by
    unfold tallystickref15_bit.l0
    rw [if_neg (by omega)]
    have h1 : Int.tmod (M : Int) 2 = ((M % 2 : Nat) : Int) := by rw [Int.tmod_eq_emod_of_nonneg (by omega)]; omega
    rw [h1, Nat.pow_zero, Nat.div_one]
    by_cases h : M % 2 = 1
    · rw [h]; rfl
    · rw [decide_eq_false h, show M % 2 = 0 by omega]; rfl
  | j + 1, k + 1, M, hM, hj, hk => by
    unfold tallystickref15_bit.l0
    rw [if_pos (by omega)]
    have h1 : IntKind.u64.wrap (Int.tdiv (M : Int) 2) = ((M / 2 : Nat) : Int) := by rw [Int.tdiv_eq_ediv_of_nonneg (by omega), IntKind.wrap_u64]; omega
    have h2 : wrap64 (((j + 1 : Nat) : Int) - 1) = (j : Int) := by unfold wrap64; omega
    rw [h1, h2, bit_ref j k (M / 2) (by omega) (by omega) (by omega), Nat.div_div_eq_div_mul, Nat.pow_succ, Nat.mul_comm]
theorem kFrom_is (f1 f2 : ByteArray) (M k : Nat) (hM : M < 18446744073709551616) : kFrom f1 f2 (M : Int) k = if M / 2 ^ (1 + k % 63) % 2 = 1 then f1 else f2 := by
  unfold kFrom
  rw [bit_is M _ hM]
  simp only [decide_eq_true_eq]
theorem kept_ref_loop (M n : Nat) (f0 f1 f2 : ByteArray) (hM : M < 18446744073709551616) (hn : n ≤ 140737488351232) : ∀ (d i k : Nat), n - i = d → i ≤ n → d + 70 < k →
    tallystickref15_kept.l0 k (M : Int) (n : Int) ((List.range i).map fun j => ((srcAt f1 f2 (M : Int) j).toNat : Int)) (i : Int) f0 f1 f2 = some ⟨((List.range n).map (srcAt f1 f2 (M : Int))).toArray⟩
  | d, i, 0, _, _, hk => by omega
  | d, i, k + 1, hd, hi, hk => by
    unfold tallystickref15_kept.l0
    by_cases h : (i : Int) < (n : Int)
    · have hw : wrap64 ((i : Int) + 1) = ((i + 1 : Nat) : Int) := by unfold wrap64; omega
      have hb : wrap64 (1 + Int.tmod (wrap64 (Int.tdiv (i : Int) 16)) 63) = ((1 + i / 16 % 63 : Nat) : Int) := by
        rw [Int.tdiv_eq_ediv_of_nonneg (by omega)]
        have h3 : wrap64 ((i : Int) / 16) = ((i / 16 : Nat) : Int) := by unfold wrap64; omega
        rw [h3, Int.tmod_eq_emod_of_nonneg (by omega)]
        unfold wrap64
        omega
      have ih := kept_ref_loop M n f0 f1 f2 hM hn (d - 1) (i + 1) k (by omega) (by omega) (by omega)
      rw [List.range_succ, List.map_append] at ih
      simp only [List.map_cons, List.map_nil] at ih
      rw [if_pos h, hb, hw]
      have hbit : tallystickref15_bit.f k (M : Int) ((1 + i / 16 % 63 : Nat) : Int) = some (decide (M / 2 ^ (1 + i / 16 % 63) % 2 = 1)) := bit_ref _ _ _ hM (by omega) (by omega)
      rw [hbit, Option.bind_some]
      have hk2 := kFrom_is f1 f2 M (i / 16) hM
      by_cases hc : M / 2 ^ (1 + i / 16 % 63) % 2 = 1
      · rw [if_pos hc] at hk2
        rw [decide_eq_true hc, if_pos rfl]
        by_cases hs : (i : Int) < (f1.size : Int)
        · obtain ⟨v, hv, hbt⟩ := bt_get f1 i (by omega)
          rw [if_pos hs, if_pos (by omega), if_pos (by simp; omega), hbt]
          have : srcAt f1 f2 (M : Int) i = v := by unfold srcAt; rw [hk2, hv]; rfl
          rw [this] at ih
          exact ih
        · rw [if_neg hs, if_pos (by simp; omega)]
          have : srcAt f1 f2 (M : Int) i = 0 := by unfold srcAt; rw [hk2, List.getElem?_eq_none (by rw [← Lib.size_eq]; omega)]; rfl
          rw [this] at ih
          exact ih
      · rw [if_neg hc] at hk2
        rw [decide_eq_false hc, if_neg (by decide)]
        by_cases hs : (i : Int) < (f2.size : Int)
        · obtain ⟨v, hv, hbt⟩ := bt_get f2 i (by omega)
          rw [if_pos hs, if_pos (by omega), if_pos (by simp; omega), hbt]
          have : srcAt f1 f2 (M : Int) i = v := by unfold srcAt; rw [hk2, hv]; rfl
          rw [this] at ih
          exact ih
        · rw [if_neg hs, if_pos (by simp; omega)]
          have : srcAt f1 f2 (M : Int) i = 0 := by unfold srcAt; rw [hk2, List.getElem?_eq_none (by rw [← Lib.size_eq]; omega)]; rfl
          rw [this] at ih
          exact ih
    · obtain rfl : i = n := by omega
      rw [if_neg h]
      congr 1
      unfold strOfNums
      congr 2
      rw [List.map_map]
      apply List.map_congr_left
      intro j _
      simp
theorem kept_ref (f0 f1 f2 : ByteArray) (m : Int) (h1 : f1.size ≤ 140737488351232) (h2 : f2.size ≤ 140737488351232) (hm : 0 ≤ m ∧ m < 18446744073709551616) (k : Nat) (hk : 140737488351400 ≤ k) :
    tallystickref15_kept.f k f0 f1 f2 m = some (keptF f1 f2 m) := by
  obtain ⟨M, rfl⟩ := Int.eq_ofNat_of_zero_le hm.1
  have hM : M < 18446744073709551616 := by omega
  obtain ⟨k, rfl⟩ : ∃ k', k = k' + 1 := ⟨k - 1, by omega⟩
  unfold tallystickref15_kept.f keptF
  by_cases he : f1.toList = f2.toList
  · rw [if_pos he, if_pos (by simpa using he)]
  · rw [if_neg he, if_neg (by simpa using he)]
    have hb : tallystickref15_bit.f (k + 1) (M : Int) 0 = some (decide (M / 2 ^ 0 % 2 = 1)) := bit_ref 0 (k + 1) M hM (by omega) (by omega)
    rw [hb, Option.bind_some, Nat.pow_zero, Nat.div_one, bit_zero M hM]
    by_cases hc : M % 2 = 1
    · rw [decide_eq_true hc, if_pos rfl, if_pos rfl, kLoop_map]
      unfold tallystickref15_kept.j0
      exact kept_ref_loop M f1.size f0 f1 f2 hM h1 f1.size 0 k (by omega) (by omega) (by omega)
    · rw [decide_eq_false hc, if_neg (by decide), if_neg (by decide), kLoop_map]
      unfold tallystickref15_kept.j0
      exact kept_ref_loop M f2.size f0 f1 f2 hM h2 f2.size 0 k (by omega) (by omega) (by omega)
theorem maskAt_range {ms : List Int} (h : ∀ m ∈ ms, 0 ≤ m ∧ m < 18446744073709551616) (i : Nat) : 0 ≤ maskAt ms i ∧ maskAt ms i < 18446744073709551616 := by
  unfold maskAt
  split
  · omega
  · rw [List.getD_eq_getElem?_getD, List.getElem?_eq_getElem (Nat.mod_lt _ (by omega))]
    exact h _ (List.getElem_mem _)
theorem crash_ref_loop (a : Int) (l : List S55) (ms : List Int) (hf : Fits l ms) (hl : l.length ≤ 64) : ∀ (d i k : Nat), l.length - i = d → i ≤ l.length → d + 140737488351500 ≤ k →
    tallystickref15_Crash.l0 k ms (i : Int) a l a ((l.mapIdx (crashAt ms)).take i) = some (a, l.mapIdx (crashAt ms))
  | d, i, 0, _, _, hk => by omega
  | d, i, k + 1, hd, hi, hk => by
    unfold tallystickref15_Crash.l0
    by_cases h : (i : Int) < (l.length : Int)
    · have hlt : i < l.length := by omega
      have hw : wrap64 ((i : Int) + 1) = ((i + 1 : Nat) : Int) := by unfold wrap64; omega
      have ih := crash_ref_loop a l ms hf hl (d - 1) (i + 1) k (by omega) (by omega) (by omega)
      have hx := hf.1 l[i] (List.getElem_mem _)
      have hk2 := kept_ref l[i].f0 l[i].f1 l[i].f2 (maskAt ms i) hx.1 hx.2 (maskAt_range hf.2 i) k (by omega)
      have htk : (l.mapIdx (crashAt ms)).take (i + 1) = (l.mapIdx (crashAt ms)).take i ++ [crashAt ms i l[i]] := by
        rw [List.take_succ_eq_append_getElem (by simpa using hlt)]
        simp
      rw [htk] at ih
      rw [if_pos h, rd_nil_lt l i hlt]
      have hlen : ((l.mapIdx (crashAt ms)).take i).length < 2932031007402 := by rw [List.length_take]; omega
      by_cases hm : (ms.length : Int) > 0
      · have hmod : Int.tmod (i : Int) (ms.length : Int) = ((i % ms.length : Nat) : Int) := by simp [Int.tmod]
        have hml : i % ms.length < ms.length := Nat.mod_lt _ (by omega)
        have hrd : rd ms ((i % ms.length : Nat) : Int) = maskAt ms i := by unfold maskAt; rw [if_neg (by omega)]; simp only [rd, Int.toNat_natCast]
        rw [if_pos hm, if_neg (by omega), hmod, if_pos (by omega), if_pos (by omega), if_pos (by omega), hrd, hk2, Option.bind_some, if_pos hlen, hw]
        exact ih
      · have h0 : maskAt ms i = 0 := by unfold maskAt; rw [if_pos (by omega)]
        rw [h0] at hk2
        rw [if_neg hm, if_pos (by omega), hk2, Option.bind_some, if_pos hlen, hw]
        rw [← h0]
        exact ih
    · rw [if_neg h, List.take_of_length_le (by simp; omega)]
theorem crash_ref (a : Int) (l : List S55) (ms : List Int) (hf : Fits l ms) (hl : l.length ≤ 64) (k : Nat) (hk : 140737488351600 ≤ k) : tallystickref15_Crash.f k a l ms = some (a, l.mapIdx (crashAt ms)) := by
  unfold tallystickref15_Crash.f
  have := crash_ref_loop a l ms hf hl l.length 0 k (by omega) (by omega) (by omega)
  rw [List.take_zero] at this
  exact this
theorem rsame_loop (a b : Int) (l : List S55) (hl : l.length ≤ 1048576) : ∀ (d i k : Nat), l.length - i = d → i ≤ l.length → d < k → tallystickref15_Same.l0 k (i : Int) a l b l = some true
  | d, i, 0, _, _, hk => by omega
  | d, i, k + 1, hd, hi, hk => by
    unfold tallystickref15_Same.l0
    by_cases h : (i : Int) < (l.length : Int)
    · have hw : wrap64 ((i : Int) + 1) = ((i + 1 : Nat) : Int) := by unfold wrap64; omega
      rw [if_pos h, if_pos (by omega), if_pos h, if_neg (by simp), hw]
      exact rsame_loop a b l hl (d - 1) (i + 1) k (by omega) (by omega) (by omega)
    · rw [if_neg h]
theorem rsame_self (a : Int) (l : List S55) (hl : l.length ≤ 1048576) (k : Nat) (hk : l.length + 1 < k) : tallystickref15_Same.f k a l a l = some true := by
  obtain ⟨k, rfl⟩ : ∃ k', k = k' + 1 := ⟨k - 1, by omega⟩
  unfold tallystickref15_Same.f
  rw [if_pos rfl, bne_self_eq_false]
  unfold tallystickref15_Same.j0
  dsimp only
  rw [if_neg (by decide)]
  exact rsame_loop a a l hl l.length 0 k (by omega) (by omega) (by omega)
theorem crashes_j0 (k : Nat) (hk : 140737488351700 ≤ k) (a : Int) (l : List S55) (ms : List Int) (b : Bool) (hf : Fits l ms) (hb : b = true → l.length ≤ 64) : tallysticklaw15_DiskCrashes.j0 k ms true b false a l = some true := by
  obtain ⟨k, rfl⟩ : ∃ k', k = k' + 1 := ⟨k - 1, by omega⟩
  unfold tallysticklaw15_DiskCrashes.j0
  dsimp only
  rw [if_neg (by decide), if_pos rfl]
  cases b with
  | false => rfl
  | true =>
    have hl := hb rfl
    rw [if_pos rfl, crash_some a l ms hl hf, Option.bind_some, crash_ref a l ms hf hl k (by omega), Option.bind_some]
    simp only
    rw [rsame_self a _ (by simp; omega) k (by simp; omega)]
    rfl
theorem crashes_true (a : Int) (l : List S55) (ms : List Int) (room : Int) (hf : Fits l ms) (k : Nat) (hk : 140737488351700 ≤ k) : tallysticklaw15_DiskCrashes.f k a l ms room = some true := by
  unfold tallysticklaw15_DiskCrashes.f
  obtain ⟨b, hr, hb⟩ := right_total a l
  have hj := crashes_j0 k hk a l ms b hf (fun h => (hb h).1)
  rw [shown_true k (by omega), Option.bind_some, hr k (by omega), Option.bind_some]
  unfold disk_New.f
  rw [Option.bind_some]
  simp only [List.length_nil]
  rw [if_neg (by decide)]
  have h0 : ¬ (mx room 0 < 0) := by unfold mx; split <;> omega
  rw [if_neg h0]
  split
  · have : (mx room 0 != room) = false := by
      rw [bne_eq_false_iff_eq]
      unfold mx
      split <;> omega
    rw [this]
    exact hj
  · exact hj
end Go.Proofs.Ytbpobnlkfpjijaa.Pr
