import Derived.Test.YtbpobnlkfpjijaaLd
import Derived.Test.YtbpobnlkfpjijaaPr92
/-! What is written, renamed, deleted, in a right disk. -/
namespace Go.Proofs.Ytbpobnlkfpjijaa.Pr
open Go.RowKit Go.Proofs.YtbpobnlkfpjijaaW.PrintWords Go.Proofs.YtbpobnlkfpjijaaW.PrintLast Go.Proofs.YtbpobnlkfpjijaaW.PrintMore
set_option linter.unusedVariables false
set_option linter.unusedSimpArgs false
theorem with_ins (A B : List S55) (f : S55) (hl : (A ++ B).length ≤ 1048576) : api_File_50.f (A ++ B) (A.length : Int) 0 [f] = some (A ++ f :: B) := by
  unfold api_File_50.f
  rw [List.length_append] at hl
  rw [if_pos ⟨by rw [List.length_append]; exact hl, by omega, .inl ⟨rfl, by rw [List.length_append]; omega, rfl⟩⟩]
  simp
theorem drop_mid (A B : List S55) (x : S55) : (A ++ x :: B).drop (A.length + 1) = B := by
  rw [← List.drop_drop, List.drop_left]
  rfl
theorem with_set (A B : List S55) (x f : S55) (hl : (A ++ x :: B).length ≤ 1048576) : api_File_50.f (A ++ x :: B) (A.length : Int) 1 [f] = some (A ++ f :: B) := by
  unfold api_File_50.f
  rw [if_pos ⟨hl, by omega, .inr ⟨rfl, by rw [List.length_append, List.length_cons]; omega, Nat.le_refl _⟩⟩]
  rw [Int.toNat_natCast, show ((A.length : Int) + 1).toNat = A.length + 1 by omega, drop_mid, List.take_left]
  rfl
theorem with_out (A B : List S55) (x : S55) (hl : (A ++ x :: B).length ≤ 1048576) : api_File_50.f (A ++ x :: B) (A.length : Int) 1 [] = some (A ++ B) := by
  unfold api_File_50.f
  rw [if_pos ⟨hl, by omega, .inr ⟨rfl, by rw [List.length_append, List.length_cons]; omega, Nat.zero_le _⟩⟩]
  rw [Int.toNat_natCast, show ((A.length : Int) + 1).toNat = A.length + 1 by omega, drop_mid, List.take_left]
  rfl
/-- How many bytes there are. -/
def used (l : List S55) : Nat := (l.map fun x => x.f1.size).sum
theorem used_append (A B : List S55) : used (A ++ B) = used A + used B := by simp [used]
theorem used_cons (x : S55) (B : List S55) : used (x :: B) = x.f1.size + used B := by simp [used]
def Small (l : List S55) : Prop := ∀ x ∈ l, x.f1.size ≤ 140737488351232
theorem used_le : ∀ (l : List S55), Small l → used l ≤ l.length * 140737488351232
  | [], _ => by simp [used]
  | x :: l, h => by
    rw [used_cons, List.length_cons]
    have h1 := h x (by simp)
    have h2 := used_le l (fun y hy => h y (by simp [hy]))
    omega
theorem used_loop (l : List S55) (hl : l.length ≤ 64) (hs : Small l) : ∀ (d i k : Nat), l.length - i = d → i ≤ l.length → d < k → disk_Used.l0 k (used (l.take i) : Int) l (l.length : Int) (i : Int) = some (used l : Int)
  | d, i, 0, _, _, hk => by omega
  | d, i, k + 1, hd, hi, hk => by
    unfold disk_Used.l0
    by_cases h : (i : Int) < (l.length : Int)
    · have hlt : i < l.length := by omega
      have hw : wrap64 ((i : Int) + 1) = ((i + 1 : Nat) : Int) := by unfold wrap64; omega
      have htk : l.take (i + 1) = l.take i ++ [l[i]] := List.take_succ_eq_append_getElem hlt
      have hu := used_le (l.take (i + 1)) (fun x hx => hs x (List.mem_of_mem_take hx))
      rw [List.length_take] at hu
      have hu2 : used (l.take (i + 1)) = used (l.take i) + l[i].f1.size := by rw [htk, used_append, used_cons]; simp [used]
      have hm : min (i + 1) l.length = i + 1 := by omega
      rw [hm] at hu
      have hw2 : wrap64 ((used (l.take i) : Int) + (l[i].f1.size : Int)) = (used (l.take (i + 1)) : Int) := by
        rw [hu2]
        unfold wrap64
        omega
      rw [if_pos h, if_pos (by omega), if_pos h, rd_nil_lt l i hlt, hw, hw2]
      exact used_loop l hl hs (d - 1) (i + 1) k (by omega) (by omega) (by omega)
    · obtain rfl : i = l.length := by omega
      rw [if_neg h, List.take_length]
theorem used_is (a : Int) (l : List S55) (hl : l.length ≤ 64) (hs : Small l) (k : Nat) (hk : 65 ≤ k) : disk_Used.f k a l = some (used l : Int) := by
  unfold disk_Used.f
  have := used_loop l hl hs l.length 0 k (by omega) (by omega) (by omega)
  exact this
def NameOk (s : ByteArray) : Prop := 1 ≤ s.size ∧ s.size ≤ 16
theorem toList_nil (s : ByteArray) : s.toList = ([] : List UInt8) ↔ s.size = 0 := by
  rw [ByteArray.toList_eq, Lib.size_eq]
  exact List.length_eq_zero_iff.symm
theorem name_is (s : ByteArray) : ∃ b, disk_name.f s = some b ∧ (b = true ↔ NameOk s) := by
  unfold disk_name.f NameOk
  by_cases h : s.toList = ([] : List UInt8)
  · rw [if_pos h]
    rw [toList_nil] at h
    exact ⟨false, rfl, by simp; omega⟩
  · rw [if_neg h]
    rw [toList_nil] at h
    refine ⟨_, rfl, ?_⟩
    rw [decide_eq_true_eq]
    omega
/-- disk.Write of a right disk. -/
theorem write_is (a : Int) (l : List S55) (s data : ByteArray) (hs : Sorted l) (hl : l.length ≤ 64) (hsm : Small l) (ha : 0 ≤ a) (ha2 : a ≤ 9223372036854775807) (hd : data.size ≤ 140737488351232) (k : Nat) (hk : 70 ≤ k) :
    (∃ e, disk_Write.f k a l s data = some (a, l, e) ∧ e ≠ 0) ∨
    (∃ A B safe, disk_Write.f k a l s data = some (a, A ++ ⟨s, data, safe⟩ :: B, 0) ∧ NameOk s ∧ (∀ y ∈ A, NLt y.f0 s) ∧ (∀ y ∈ B, NLt s y.f0) ∧ ((A ++ ⟨s, data, safe⟩ :: B).length ≤ 64) ∧ (used (A ++ ⟨s, data, safe⟩ :: B) : Int) ≤ a ∧ (l = A ++ B ∨ ∃ x, l = A ++ x :: B ∧ x.f0 = s)) := by
  obtain ⟨k, rfl⟩ : ∃ k', k = k' + 1 := ⟨k - 1, by omega⟩
  obtain ⟨b, hn, hb⟩ := name_is s
  have hu := used_is a l hl hsm k (by omega)
  have hul := used_le l hsm
  rcases at_spec a l s hs with ⟨A, x, B, rfl, hat, he, h1, h2⟩ | ⟨A, B, rfl, hat, h1, h2⟩
  · have hus : used (A ++ x :: B) = used A + (x.f1.size + used B) := by rw [used_append, used_cons]
    have hw1 : wrap64 ((used (A ++ x :: B) : Int) - (x.f1.size : Int)) = ((used A + used B : Nat) : Int) := by unfold wrap64; omega
    have hw2 : wrap64 (a - ((used A + used B : Nat) : Int)) = a - ((used A + used B : Nat) : Int) := by unfold wrap64; omega
    have hf : disk_Write.f (k + 1) a (A ++ x :: B) s data = disk_Write.j0 (k + 1) s data (A.length : Int) true 1 a (A ++ x :: B) x.f0 x.f1 x.f2 := by
      unfold disk_Write.f
      rw [hat, Option.bind_some]
      simp only
      rw [if_pos trivial, if_pos (by omega), if_pos (by rw [List.length_append, List.length_cons]; omega), rd_mid]
    rw [hf]
    unfold disk_Write.j0
    dsimp only
    rw [hu, Option.bind_some, hn, Option.bind_some, hw1, hw2]
    cases b with
    | false => exact .inl ⟨1, by rw [if_neg (by decide)], by decide⟩
    | true =>
      rw [if_pos rfl, if_pos rfl]
      by_cases hroom : (data.size : Int) > a - ((used A + used B : Nat) : Int)
      · exact .inl ⟨8, by rw [if_pos hroom], by decide⟩
      · rw [if_neg hroom, with_set A B x _ (by omega)]
        refine .inr ⟨A, B, x.f2, by rw [he]; rfl, hb.1 rfl, h1, h2, ?_, ?_, .inr ⟨x, rfl, he⟩⟩
        · rw [List.length_append, List.length_cons] at hl ⊢
          exact hl
        · rw [used_append, used_cons]
          simp only
          omega
  · have hus : used (A ++ B) = used A + used B := by rw [used_append]
    have hw1 : wrap64 ((used (A ++ B) : Int) - (((⟨#[]⟩ : ByteArray).size : Nat) : Int)) = ((used A + used B : Nat) : Int) := by
      have h0 : (⟨#[]⟩ : ByteArray).size = 0 := rfl
      rw [h0]
      unfold wrap64; omega
    have hw2 : wrap64 (a - ((used A + used B : Nat) : Int)) = a - ((used A + used B : Nat) : Int) := by unfold wrap64; omega
    have hf : disk_Write.f (k + 1) a (A ++ B) s data = disk_Write.j0 (k + 1) s data (A.length : Int) false 0 a (A ++ B) s ⟨#[]⟩ ⟨#[]⟩ := by
      unfold disk_Write.f
      rw [hat, Option.bind_some]
      simp only
      rw [if_neg (by decide)]
    rw [hf]
    unfold disk_Write.j0
    dsimp only
    rw [hu, Option.bind_some, hn, Option.bind_some, hw1, hw2]
    cases b with
    | false => exact .inl ⟨1, by rw [if_neg (by decide)], by decide⟩
    | true =>
      rw [if_pos rfl, if_neg (by decide)]
      by_cases hfull : ((A ++ B).length : Int) ≥ 64
      · exact .inl ⟨8, by rw [if_pos hfull], by decide⟩
      · rw [if_neg hfull]
        by_cases hroom : (data.size : Int) > a - ((used A + used B : Nat) : Int)
        · exact .inl ⟨8, by rw [if_pos hroom], by decide⟩
        · rw [if_neg hroom, with_ins A B _ (by omega)]
          refine .inr ⟨A, B, ⟨#[]⟩, rfl, hb.1 rfl, h1, h2, ?_, ?_, .inl rfl⟩
          · rw [List.length_append] at hfull
            rw [List.length_append, List.length_cons]
            omega
          · rw [used_append, used_cons]
            simp only
            omega
/-- disk.Delete of a right disk. -/
theorem delete_is (a : Int) (l : List S55) (s : ByteArray) (hs : Sorted l) (hl : l.length ≤ 64) :
    (∃ A x B, l = A ++ x :: B ∧ x.f0 = s ∧ (∀ y ∈ A, NLt y.f0 s) ∧ (∀ y ∈ B, NLt s y.f0) ∧ disk_Delete.f a l s = some (a, A ++ B, 0)) ∨ ((∀ x ∈ l, x.f0 ≠ s) ∧ disk_Delete.f a l s = some (a, l, 9)) := by
  rcases at_spec a l s hs with ⟨A, x, B, rfl, hat, he, h1, h2⟩ | ⟨A, B, rfl, hat, h1, h2⟩
  · refine .inl ⟨A, x, B, rfl, he, h1, h2, ?_⟩
    unfold disk_Delete.f
    rw [hat, Option.bind_some]
    simp only
    rw [if_pos trivial, with_out A B x (by omega)]
    rfl
  · refine .inr ⟨?_, ?_⟩
    · intro y hy
      rcases List.mem_append.1 hy with h | h
      · exact nlt_ne (h1 y h)
      · exact fun e => nlt_ne (h2 y h) e.symm
    · unfold disk_Delete.f
      rw [hat, Option.bind_some]
      simp only
      rw [if_neg (by decide)]
/-- disk.Rename of a right disk. -/
theorem rename_is (a : Int) (l : List S55) (s dst : ByteArray) (hs : Sorted l) (hl : l.length ≤ 64) :
    ((∀ x ∈ l, x.f0 ≠ s) ∧ disk_Rename.f a l s dst = some (a, l, 9)) ∨
    ((∃ x ∈ l, x.f0 = s) ∧ disk_Rename.f a l s dst = some (a, l, 1)) ∨
    (∃ A x B C D, l = A ++ x :: B ∧ x.f0 = s ∧ (∀ y ∈ A, NLt y.f0 s) ∧ (∀ y ∈ B, NLt s y.f0) ∧ NameOk dst ∧ (∀ y ∈ C, NLt y.f0 dst) ∧ (∀ y ∈ D, NLt dst y.f0) ∧ (A ++ B = C ++ D ∨ ∃ z, A ++ B = C ++ z :: D ∧ z.f0 = dst) ∧ disk_Rename.f a l s dst = some (a, C ++ ⟨dst, x.f1, x.f2⟩ :: D, 0)) := by
  obtain ⟨b, hn, hb⟩ := name_is dst
  rcases at_spec a l s hs with ⟨A, x, B, rfl, hat, he, h1, h2⟩ | ⟨A, B, rfl, hat, h1, h2⟩
  · cases b with
    | false =>
      refine .inr (.inl ⟨⟨x, by simp, he⟩, ?_⟩)
      unfold disk_Rename.f
      rw [hat, Option.bind_some]
      simp only
      rw [if_pos trivial, hn, Option.bind_some, if_neg (by decide)]
    | true =>
      have hAB : Sorted (A ++ B) := sorted_two hs.left hs.right.tail h1 h2
      have hlAB : (A ++ B).length ≤ 64 := by
        rw [List.length_append, List.length_cons] at hl
        rw [List.length_append]; omega
      have hdel : disk_Delete.f a (A ++ x :: B) s = some (a, A ++ B, 0) := by
        unfold disk_Delete.f
        rw [hat, Option.bind_some]
        simp only
        rw [if_pos trivial, with_out A B x (by omega)]
        rfl
      rcases at_spec a (A ++ B) dst hAB with ⟨C, z, D, hcd, hat2, hz, g1, g2⟩ | ⟨C, D, hcd, hat2, g1, g2⟩
      · refine .inr (.inr ⟨A, x, B, C, D, rfl, he, h1, h2, hb.1 rfl, g1, g2, .inr ⟨z, hcd, hz⟩, ?_⟩)
        unfold disk_Rename.f
        rw [hat, Option.bind_some]
        simp only
        rw [if_pos trivial, hn, Option.bind_some, if_pos rfl, if_pos (by omega), if_pos (by rw [List.length_append, List.length_cons]; omega), hdel, Option.bind_some]
        simp only
        rw [hat2, Option.bind_some]
        simp only
        rw [if_pos trivial, rd_mid, hcd, with_set C D z _ (by rw [← hcd]; omega)]
        rfl
      · refine .inr (.inr ⟨A, x, B, C, D, rfl, he, h1, h2, hb.1 rfl, g1, g2, .inl hcd, ?_⟩)
        unfold disk_Rename.f
        rw [hat, Option.bind_some]
        simp only
        rw [if_pos trivial, hn, Option.bind_some, if_pos rfl, if_pos (by omega), if_pos (by rw [List.length_append, List.length_cons]; omega), hdel, Option.bind_some]
        simp only
        rw [hat2, Option.bind_some]
        simp only
        rw [if_neg (by decide), rd_mid, hcd, with_ins C D _ (by rw [← hcd]; omega)]
        rfl
  · refine .inl ⟨?_, ?_⟩
    · intro y hy
      rcases List.mem_append.1 hy with h | h
      · exact nlt_ne (h1 y h)
      · exact fun e => nlt_ne (h2 y h) e.symm
    · unfold disk_Rename.f
      rw [hat, Option.bind_some]
      simp only
      rw [if_neg (by decide)]
/-! Right disks. -/
def RightP (a : Int) (l : List S55) : Prop := 0 ≤ a ∧ l.length ≤ 64 ∧ (∀ x ∈ l, NameOk x.f0) ∧ Sorted l
theorem sorted_of_adj : ∀ (l : List S55), (∀ (j : Nat) (h : j + 1 < l.length), NLt l[j].f0 l[j + 1].f0) → Sorted l
  | [], _ => List.Pairwise.nil
  | [x], _ => List.pairwise_singleton _ _
  | x :: y :: l, h => by
    have ih := sorted_of_adj (y :: l) (fun j hj => h (j + 1) (by simp only [List.length_cons] at hj ⊢; omega))
    have hxy : NLt x.f0 y.f0 := h 0 (by simp)
    refine List.pairwise_cons.2 ⟨fun z hz => ?_, ih⟩
    rcases List.mem_cons.1 hz with rfl | hz
    · exact hxy
    · exact nlt_trans hxy ((List.pairwise_cons.1 ih).1 z hz)
theorem rname_is (s : ByteArray) : ∃ b, tallystickref15_name.f s = some b ∧ (b = true ↔ NameOk s) := by
  unfold tallystickref15_name.f NameOk
  split
  · refine ⟨_, rfl, ?_⟩
    rw [decide_eq_true_eq]
    omega
  · exact ⟨false, rfl, by simp; omega⟩
theorem right_loop2 (a : Int) (l : List S55) (hl : l.length ≤ 64) : ∀ (d i : Nat), l.length - i = d → i ≤ l.length → ∃ b, tallystickref15_Right.l0 (d + 1) (i : Int) a l = some b ∧ (b = true ↔ ∀ (j : Nat) (h : j < l.length), i ≤ j → NameOk l[j].f0 ∧ ∀ (h0 : 0 < j), NLt l[j - 1].f0 l[j].f0)
  | d, i, hd, hi => by
    unfold tallystickref15_Right.l0
    by_cases h : (i : Int) < (l.length : Int)
    · have hlt : i < l.length := by omega
      obtain ⟨b, hb, hbn⟩ := rname_is l[i].f0
      have hw : wrap64 ((i : Int) + 1) = ((i + 1 : Nat) : Int) := by unfold wrap64; omega
      obtain ⟨d', rfl⟩ : ∃ d', d = d' + 1 := ⟨d - 1, by omega⟩
      obtain ⟨b2, ih, ihb⟩ := right_loop2 a l hl d' (i + 1) (by omega) (by omega)
      rw [if_pos h, if_pos (by omega), rd_nil_lt l i hlt, hb, Option.bind_some, hw]
      cases b with
      | false =>
        refine ⟨false, by rw [if_neg (by decide)], by simp, fun hall => ?_⟩
        have := (hall i hlt (Nat.le_refl _)).1
        exact absurd (hbn.2 this) (by decide)
      | true =>
        have hname := hbn.1 rfl
        rw [if_pos rfl]
        by_cases h0 : (i : Int) > 0
        · have hw2 : wrap64 ((i : Int) - 1) = ((i - 1 : Nat) : Int) := by unfold wrap64; omega
          rw [if_pos h0, hw2, if_pos (by omega), if_pos (by omega), rd_nil_lt l (i - 1) (by omega)]
          by_cases hord : Op.bytesLess l[i - 1].f0.toList l[i].f0.toList = true
          · refine ⟨b2, by rw [if_pos hord]; exact ih, ?_⟩
            rw [ihb]
            constructor
            · intro hall j hj hij
              rcases Nat.lt_or_ge i j with h3 | h3
              · exact hall j hj (by omega)
              · obtain rfl : j = i := by omega
                exact ⟨hname, fun _ => hord⟩
            · exact fun hall j hj hij => hall j hj (by omega)
          · refine ⟨false, by rw [if_neg hord], by simp, fun hall => ?_⟩
            exact absurd ((hall i hlt (Nat.le_refl _)).2 (by omega)) hord
        · refine ⟨b2, by rw [if_neg h0]; exact ih, ?_⟩
          rw [ihb]
          constructor
          · intro hall j hj hij
            rcases Nat.lt_or_ge i j with h3 | h3
            · exact hall j hj (by omega)
            · obtain rfl : j = i := by omega
              exact ⟨hname, fun h4 => by omega⟩
          · exact fun hall j hj hij => hall j hj (by omega)
    · refine ⟨true, by rw [if_neg h], by simp; intro j hj hij; omega⟩
theorem right_is (a : Int) (l : List S55) : ∃ b, (∀ k, 70 ≤ k → tallystickref15_Right.f k a l = some b) ∧ (b = true ↔ RightP a l) := by
  suffices h : ∃ b, tallystickref15_Right.f 70 a l = some b ∧ (b = true ↔ RightP a l) by
    obtain ⟨b, h1, h2⟩ := h
    exact ⟨b, fun k hk => leo_up (f := fun k => tallystickref15_Right.f k a l) (tallystickref15_Right.mono a l) h1 k hk, h2⟩
  unfold tallystickref15_Right.f
  by_cases ha : a < 0
  · rw [if_pos ha]
    refine ⟨false, by simp [tallystickref15_Right.j0], by simp, fun h => ?_⟩
    have := h.1
    omega
  · rw [if_neg ha]
    by_cases h : (l.length : Int) > 64
    · refine ⟨false, by simp [tallystickref15_Right.j0, h], by simp, fun hr => ?_⟩
      have := hr.2.1
      omega
    · obtain ⟨b, hb, hbi⟩ := right_loop2 a l (by omega) l.length 0 (by omega) (by omega)
      have hb2 := leo_up (f := fun k => tallystickref15_Right.l0 k 0 a l) (fun k => (tallystickref15_Right.mono_l k).2 0 a l) hb 69 (by omega)
      refine ⟨b, ?_, ?_⟩
      · rw [decide_eq_false h]
        show tallystickref15_Right.j0 (69 + 1) false a l = some b
        unfold tallystickref15_Right.j0
        dsimp only
        rw [if_neg (by decide)]
        exact hb2
      · rw [hbi]
        constructor
        · intro hall
          refine ⟨by omega, by omega, fun x hx => ?_, sorted_of_adj l fun j hj => ?_⟩
          · obtain ⟨j, hj, rfl⟩ := List.getElem_of_mem hx
            exact (hall j hj (Nat.zero_le _)).1
          · have := (hall (j + 1) hj (Nat.zero_le _)).2 (by omega)
            simpa using this
        · intro hr j hj _
          refine ⟨hr.2.2.1 _ (List.getElem_mem _), fun h0 => ?_⟩
          exact List.pairwise_iff_getElem.1 hr.2.2.2 (j - 1) j (by omega) hj (by omega)
theorem right_true {a : Int} {l : List S55} (h : RightP a l) (k : Nat) (hk : 70 ≤ k) : tallystickref15_Right.f k a l = some true := by
  obtain ⟨b, h1, h2⟩ := right_is a l
  rw [h1 k hk, h2.2 h]
end Go.Proofs.Ytbpobnlkfpjijaa.Pr
