import Derived.Test.YtbpobnlkfpjijaaLd
/-! Right disks; put, cut: what stays. -/
namespace Go.Proofs.Ytbpobnlkfpjijaa.Pr
open Go.RowKit Go.Proofs.YtbpobnlkfpjijaaW.PrintWords Go.Proofs.YtbpobnlkfpjijaaW.PrintLast Go.Proofs.YtbpobnlkfpjijaaW.PrintMore
set_option linter.unusedVariables false
set_option linter.unusedSimpArgs false
theorem with_ins (A B : List S55) (f : S55) (hl : (A ++ B).length ≤ 1048576) : api_File_50.f (A ++ B) (A.length : Int) 0 [f] = some (A ++ f :: B) := by
  unfold api_File_50.f
  rw [List.length_append] at hl
  rw [if_pos ⟨by rw [List.length_append]; exact hl, by omega, .inl ⟨rfl, by rw [List.length_append]; omega, rfl⟩⟩]
  simp
theorem drop_mid (A B : List S55) (x : S55) : (A ++ x :: B).drop (A.length + 1) = B := by
  rw [← List.drop_drop, List.drop_left]
  rfl
theorem with_set (A B : List S55) (x f : S55) (hl : (A ++ x :: B).length ≤ 1048576) : api_File_50.f (A ++ x :: B) (A.length : Int) 1 [f] = some (A ++ f :: B) := by
  unfold api_File_50.f
  rw [if_pos ⟨hl, by omega, .inr ⟨rfl, by rw [List.length_append, List.length_cons]; omega, Nat.le_refl _⟩⟩]
  rw [Int.toNat_natCast, show ((A.length : Int) + 1).toNat = A.length + 1 by omega, drop_mid, List.take_left]
  rfl
theorem with_out (A B : List S55) (x : S55) (hl : (A ++ x :: B).length ≤ 1048576) : api_File_50.f (A ++ x :: B) (A.length : Int) 1 [] = some (A ++ B) := by
  unfold api_File_50.f
  rw [if_pos ⟨hl, by omega, .inr ⟨rfl, by rw [List.length_append, List.length_cons]; omega, Nat.zero_le _⟩⟩]
  rw [Int.toNat_natCast, show ((A.length : Int) + 1).toNat = A.length + 1 by omega, drop_mid, List.take_left]
  rfl
def NameOk (s : ByteArray) : Prop := 1 ≤ s.size ∧ s.size ≤ 16
/-! Right disks. -/
def RightP (a : Int) (l : List S55) : Prop := 0 ≤ a ∧ l.length ≤ 64 ∧ (∀ x ∈ l, NameOk x.f0) ∧ Sorted l
theorem sorted_of_adj : ∀ (l : List S55), (∀ (j : Nat) (h : j + 1 < l.length), NLt l[j].f0 l[j + 1].f0) → Sorted l
  | [], _ => List.Pairwise.nil
  | [x], _ => List.pairwise_singleton _ _
  | x :: y :: l, h => by
    have ih := sorted_of_adj (y :: l) (fun j hj => h (j + 1) (by simp only [List.length_cons] at hj ⊢; omega))
    have hxy : NLt x.f0 y.f0 := h 0 (by simp)
    refine List.pairwise_cons.2 ⟨fun z hz => ?_, ih⟩
    rcases List.mem_cons.1 hz with rfl | hz
    · exact hxy
    · exact nlt_trans hxy ((List.pairwise_cons.1 ih).1 z hz)
theorem rname_is (s : ByteArray) : ∃ b, tallystickref15_name.f s = some b ∧ (b = true ↔ NameOk s) := by
  unfold tallystickref15_name.f NameOk
  split
  · refine ⟨_, rfl, ?_⟩
    rw [decide_eq_true_eq]
    omega
  · exact ⟨false, rfl, by simp; omega⟩
theorem right_loop2 (a : Int) (l : List S55) (hl : l.length ≤ 64) : ∀ (d i : Nat), l.length - i = d → i ≤ l.length → ∃ b, tallystickref15_Right.l0 (d + 1) (i : Int) a l = some b ∧ (b = true ↔ ∀ (j : Nat) (h : j < l.length), i ≤ j → NameOk l[j].f0 ∧ ∀ (h0 : 0 < j), NLt l[j - 1].f0 l[j].f0)
  | d, i, hd, hi => by
    unfold tallystickref15_Right.l0
    by_cases h : (i : Int) < (l.length : Int)
    · have hlt : i < l.length := by omega
      obtain ⟨b, hb, hbn⟩ := rname_is l[i].f0
      have hw : wrap64 ((i : Int) + 1) = ((i + 1 : Nat) : Int) := by unfold wrap64; omega
      obtain ⟨d', rfl⟩ : ∃ d', d = d' + 1 := ⟨d - 1, by omega⟩
      obtain ⟨b2, ih, ihb⟩ := right_loop2 a l hl d' (i + 1) (by omega) (by omega)
      rw [if_pos h, if_pos (by omega), rd_nil_lt l i hlt, hb, Option.bind_some, hw]
      cases b with
      | false =>
        refine ⟨false, by rw [if_neg (by decide)], by simp, fun hall => ?_⟩
        have := (hall i hlt (Nat.le_refl _)).1
        exact absurd (hbn.2 this) (by decide)
      | true =>
        have hname := hbn.1 rfl
        rw [if_pos rfl]
        by_cases h0 : (i : Int) > 0
        · have hw2 : wrap64 ((i : Int) - 1) = ((i - 1 : Nat) : Int) := by unfold wrap64; omega
          rw [if_pos h0, hw2, if_pos (by omega), if_pos (by omega), rd_nil_lt l (i - 1) (by omega)]
          by_cases hord : Op.bytesLess l[i - 1].f0.toList l[i].f0.toList = true
          · refine ⟨b2, by rw [if_pos hord]; exact ih, ?_⟩
            rw [ihb]
            constructor
            · intro hall j hj hij
              rcases Nat.lt_or_ge i j with h3 | h3
              · exact hall j hj (by omega)
              · obtain rfl : j = i := by omega
                exact ⟨hname, fun _ => hord⟩
            · exact fun hall j hj hij => hall j hj (by omega)
          · refine ⟨false, by rw [if_neg hord], by simp, fun hall => ?_⟩
            exact absurd ((hall i hlt (Nat.le_refl _)).2 (by omega)) hord
        · refine ⟨b2, by rw [if_neg h0]; exact ih, ?_⟩
          rw [ihb]
          constructor
          · intro hall j hj hij
            rcases Nat.lt_or_ge i j with h3 | h3
            · exact hall j hj (by omega)
            · obtain rfl : j = i := by omega
              exact ⟨hname, fun h4 => by omega⟩
          · exact fun hall j hj hij => hall j hj (by omega)
    · refine ⟨true, by rw [if_neg h], by simp; intro j hj hij; omega⟩
theorem right_is (a : Int) (l : List S55) : ∃ b, (∀ k, 70 ≤ k → tallystickref15_Right.f k a l = some b) ∧ (b = true ↔ RightP a l) := by
  suffices h : ∃ b, tallystickref15_Right.f 70 a l = some b ∧ (b = true ↔ RightP a l) by
    obtain ⟨b, h1, h2⟩ := h
    exact ⟨b, fun k hk => leo_up (f := fun k => tallystickref15_Right.f k a l) (tallystickref15_Right.mono a l) h1 k hk, h2⟩
  unfold tallystickref15_Right.f
  by_cases ha : a < 0
  · rw [if_pos ha]
    refine ⟨false, by simp [tallystickref15_Right.j0], by simp, fun h => ?_⟩
    have := h.1
    omega
  · rw [if_neg ha]
    by_cases h : (l.length : Int) > 64
    · refine ⟨false, by simp [tallystickref15_Right.j0, h], by simp, fun hr => ?_⟩
      have := hr.2.1
      omega
    · obtain ⟨b, hb, hbi⟩ := right_loop2 a l (by omega) l.length 0 (by omega) (by omega)
      have hb2 := leo_up (f := fun k => tallystickref15_Right.l0 k 0 a l) (fun k => (tallystickref15_Right.mono_l k).2 0 a l) hb 69 (by omega)
      refine ⟨b, ?_, ?_⟩
      · rw [decide_eq_false h]
        show tallystickref15_Right.j0 (69 + 1) false a l = some b
        unfold tallystickref15_Right.j0
        dsimp only
        rw [if_neg (by decide)]
        exact hb2
      · rw [hbi]
        constructor
        · intro hall
          refine ⟨by omega, by omega, fun x hx => ?_, sorted_of_adj l fun j hj => ?_⟩
          · obtain ⟨j, hj, rfl⟩ := List.getElem_of_mem hx
            exact (hall j hj (Nat.zero_le _)).1
          · have := (hall (j + 1) hj (Nat.zero_le _)).2 (by omega)
            simpa using this
        · intro hr j hj _
          refine ⟨hr.2.2.1 _ (List.getElem_mem _), fun h0 => ?_⟩
          exact List.pairwise_iff_getElem.1 hr.2.2.2 (j - 1) j (by omega) hj (by omega)
theorem right_true {a : Int} {l : List S55} (h : RightP a l) (k : Nat) (hk : 70 ≤ k) : tallystickref15_Right.f k a l = some true := by
  obtain ⟨b, h1, h2⟩ := right_is a l
  rw [h1 k hk, h2.2 h]
/-- l' is l with f, none other of that name. -/
def Put (l : List S55) (f : S55) (l' : List S55) : Prop := ∃ A B, l' = A ++ f :: B ∧ (∀ y ∈ A, NLt y.f0 f.f0) ∧ (∀ y ∈ B, NLt f.f0 y.f0) ∧ (l = A ++ B ∨ ∃ x, l = A ++ x :: B ∧ x.f0 = f.f0)
/-- l' is l without the file x. -/
def Cut (l : List S55) (x : S55) (l' : List S55) : Prop := ∃ A B, l = A ++ x :: B ∧ (∀ y ∈ A, NLt y.f0 x.f0) ∧ (∀ y ∈ B, NLt x.f0 y.f0) ∧ l' = A ++ B
theorem put_mem {l l' : List S55} {f : S55} (h : Put l f l') {x : S55} (hx : x.f0 ≠ f.f0) : x ∈ l ↔ x ∈ l' := by
  obtain ⟨A, B, rfl, _, _, rfl | ⟨z, rfl, hz⟩⟩ := h
  · have : x ≠ f := fun e => hx (by rw [e])
    simp [this]
  · have h1 : x ≠ f := fun e => hx (by rw [e])
    have h2 : x ≠ z := fun e => hx (by rw [e, hz])
    simp [h1, h2]
theorem put_get {l l' : List S55} {f : S55} (h : Put l f l') : f ∈ l' := by
  obtain ⟨A, B, rfl, _⟩ := h
  simp
theorem put_sorted {l l' : List S55} {f : S55} (h : Put l f l') (hs : Sorted l) : Sorted l' := by
  obtain ⟨A, B, rfl, h1, h2, rfl | ⟨z, rfl, hz⟩⟩ := h
  · exact sorted_mid hs.left hs.right h1 h2
  · exact sorted_mid hs.left hs.right.tail h1 h2
theorem put_length {l l' : List S55} {f : S55} (h : Put l f l') : l'.length ≤ l.length + 1 := by
  obtain ⟨A, B, rfl, _, _, rfl | ⟨z, rfl, hz⟩⟩ := h
  · simp only [List.length_append, List.length_cons]; omega
  · simp only [List.length_append, List.length_cons]; omega
theorem put_right {a : Int} {l l' : List S55} {f : S55} (h : Put l f l') (hr : RightP a l) (hn : NameOk f.f0) (hl : l'.length ≤ 64) : RightP a l' := by
  refine ⟨hr.1, hl, fun x hx => ?_, put_sorted h hr.2.2.2⟩
  by_cases he : x.f0 = f.f0
  · rw [he]; exact hn
  · exact hr.2.2.1 x ((put_mem h he).2 hx)
theorem cut_mem {l l' : List S55} {z : S55} (h : Cut l z l') {x : S55} (hx : x.f0 ≠ z.f0) : x ∈ l ↔ x ∈ l' := by
  obtain ⟨A, B, rfl, _, _, rfl⟩ := h
  have h1 : x ≠ z := fun e => hx (by rw [e])
  simp [h1]
theorem cut_sub {l l' : List S55} {z : S55} (h : Cut l z l') {x : S55} (hx : x ∈ l') : x ∈ l := by
  obtain ⟨A, B, rfl, _, _, rfl⟩ := h
  rcases List.mem_append.1 hx with h | h <;> simp [h]
theorem cut_none {l l' : List S55} {z : S55} (h : Cut l z l') : ∀ x ∈ l', x.f0 ≠ z.f0 := by
  obtain ⟨A, B, rfl, h1, h2, rfl⟩ := h
  intro x hx
  rcases List.mem_append.1 hx with h | h
  · exact nlt_ne (h1 x h)
  · exact fun e => nlt_ne (h2 x h) e.symm
theorem cut_length {l l' : List S55} {z : S55} (h : Cut l z l') : l'.length + 1 = l.length := by
  obtain ⟨A, B, rfl, _, _, rfl⟩ := h
  simp only [List.length_append, List.length_cons]; omega
theorem cut_sorted {l l' : List S55} {z : S55} (h : Cut l z l') (hs : Sorted l) : Sorted l' := by
  obtain ⟨A, B, rfl, h1, h2, rfl⟩ := h
  exact sorted_two hs.left hs.right.tail h1 h2
theorem cut_right {a : Int} {l l' : List S55} {z : S55} (h : Cut l z l') (hr : RightP a l) : RightP a l' :=
  ⟨hr.1, by have := cut_length h; have := hr.2.1; omega, fun x hx => hr.2.2.1 x (cut_sub h hx), cut_sorted h hr.2.2.2⟩
theorem cut_get {l l' : List S55} {z : S55} (h : Cut l z l') : z ∈ l := by
  obtain ⟨A, B, rfl, _⟩ := h
  simp
/-- Reading one that is the same in both. -/
theorem read_eq (a a' : Int) {l l' : List S55} (hs : Sorted l) (hs' : Sorted l') (o : ByteArray) (h : ∀ x : S55, x.f0 = o → (x ∈ l ↔ x ∈ l')) : disk_Read.f a l o = disk_Read.f a' l' o := by
  by_cases hx : ∃ x ∈ l, x.f0 = o
  · obtain ⟨x, hx, rfl⟩ := hx
    rw [read_mem a hs hx, read_mem a' hs' ((h x rfl).1 hx)]
  · have h1 : ∀ x ∈ l, x.f0 ≠ o := fun x hxl he => hx ⟨x, hxl, he⟩
    have h2 : ∀ x ∈ l', x.f0 ≠ o := fun x hxl he => hx ⟨x, (h x he).2 hxl, he⟩
    rw [read_none a hs h1, read_none a' hs' h2]
theorem read_some (a : Int) {l : List S55} (hs : Sorted l) (o : ByteArray) : ∃ t c, disk_Read.f a l o = some (t, c) := by
  by_cases hx : ∃ x ∈ l, x.f0 = o
  · obtain ⟨x, hx, rfl⟩ := hx
    exact ⟨_, _, read_mem a hs hx⟩
  · exact ⟨_, _, read_none a hs (fun x hxl he => hx ⟨x, hxl, he⟩)⟩
theorem crash_right {a : Int} {l : List S55} (hr : RightP a l) (ms : List Int) : RightP a (l.mapIdx (crashAt ms)) := by
  refine ⟨hr.1, by simpa using hr.2.1, fun x hx => ?_, ?_⟩
  · obtain ⟨i, hi, rfl⟩ := List.mem_mapIdx.1 hx
    exact hr.2.2.1 l[i] (List.getElem_mem _)
  · refine List.pairwise_iff_getElem.2 fun i j hi hj hij => ?_
    simp only [List.length_mapIdx] at hi hj
    simp only [List.getElem_mapIdx]
    exact List.pairwise_iff_getElem.1 hr.2.2.2 i j hi hj hij
end Go.Proofs.Ytbpobnlkfpjijaa.Pr
