import Derived.Test.YtbpobnlkfpjijaaLk
/-! Put, cut: what stays. -/
namespace Go.Proofs.Ytbpobnlkfpjijaa.Pr
open Go.RowKit Go.Proofs.YtbpobnlkfpjijaaW.PrintWords Go.Proofs.YtbpobnlkfpjijaaW.PrintLast Go.Proofs.YtbpobnlkfpjijaaW.PrintMore
set_option linter.unusedVariables false
set_option linter.unusedSimpArgs false
/-- l' is l with f, none other of that name. -/
def Put (l : List S55) (f : S55) (l' : List S55) : Prop := ∃ A B, l' = A ++ f :: B ∧ (∀ y ∈ A, NLt y.f0 f.f0) ∧ (∀ y ∈ B, NLt f.f0 y.f0) ∧ (l = A ++ B ∨ ∃ x, l = A ++ x :: B ∧ x.f0 = f.f0)
/-- l' is l without the file x. -/
def Cut (l : List S55) (x : S55) (l' : List S55) : Prop := ∃ A B, l = A ++ x :: B ∧ (∀ y ∈ A, NLt y.f0 x.f0) ∧ (∀ y ∈ B, NLt x.f0 y.f0) ∧ l' = A ++ B
theorem put_mem {l l' : List S55} {f : S55} (h : Put l f l') {x : S55} (hx : x.f0 ≠ f.f0) : x ∈ l ↔ x ∈ l' := by
  obtain ⟨A, B, rfl, _, _, rfl | ⟨z, rfl, hz⟩⟩ := h
  · have : x ≠ f := fun e => hx (by rw [e])
    simp [this]
  · have h1 : x ≠ f := fun e => hx (by rw [e])
    have h2 : x ≠ z := fun e => hx (by rw [e, hz])
    simp [h1, h2]
theorem put_get {l l' : List S55} {f : S55} (h : Put l f l') : f ∈ l' := by
  obtain ⟨A, B, rfl, _⟩ := h
  simp
theorem put_sorted {l l' : List S55} {f : S55} (h : Put l f l') (hs : Sorted l) : Sorted l' := by
  obtain ⟨A, B, rfl, h1, h2, rfl | ⟨z, rfl, hz⟩⟩ := h
  · exact sorted_mid hs.left hs.right h1 h2
  · exact sorted_mid hs.left hs.right.tail h1 h2
theorem put_length {l l' : List S55} {f : S55} (h : Put l f l') : l'.length ≤ l.length + 1 := by
  obtain ⟨A, B, rfl, _, _, rfl | ⟨z, rfl, hz⟩⟩ := h
  · simp only [List.length_append, List.length_cons]; omega
  · simp only [List.length_append, List.length_cons]; omega
theorem put_right {a : Int} {l l' : List S55} {f : S55} (h : Put l f l') (hr : RightP a l) (hn : NameOk f.f0) (hl : l'.length ≤ 64) : RightP a l' := by
  refine ⟨hr.1, hl, fun x hx => ?_, put_sorted h hr.2.2.2⟩
  by_cases he : x.f0 = f.f0
  · rw [he]; exact hn
  · exact hr.2.2.1 x ((put_mem h he).2 hx)
theorem cut_mem {l l' : List S55} {z : S55} (h : Cut l z l') {x : S55} (hx : x.f0 ≠ z.f0) : x ∈ l ↔ x ∈ l' := by
  obtain ⟨A, B, rfl, _, _, rfl⟩ := h
  have h1 : x ≠ z := fun e => hx (by rw [e])
  simp [h1]
theorem cut_sub {l l' : List S55} {z : S55} (h : Cut l z l') {x : S55} (hx : x ∈ l') : x ∈ l := by
  obtain ⟨A, B, rfl, _, _, rfl⟩ := h
  rcases List.mem_append.1 hx with h | h <;> simp [h]
theorem cut_none {l l' : List S55} {z : S55} (h : Cut l z l') : ∀ x ∈ l', x.f0 ≠ z.f0 := by
  obtain ⟨A, B, rfl, h1, h2, rfl⟩ := h
  intro x hx
  rcases List.mem_append.1 hx with h | h
  · exact nlt_ne (h1 x h)
  · exact fun e => nlt_ne (h2 x h) e.symm
theorem cut_length {l l' : List S55} {z : S55} (h : Cut l z l') : l'.length + 1 = l.length := by
  obtain ⟨A, B, rfl, _, _, rfl⟩ := h
  simp only [List.length_append, List.length_cons]; omega
theorem cut_sorted {l l' : List S55} {z : S55} (h : Cut l z l') (hs : Sorted l) : Sorted l' := by
  obtain ⟨A, B, rfl, h1, h2, rfl⟩ := h
  exact sorted_two hs.left hs.right.tail h1 h2
theorem cut_right {a : Int} {l l' : List S55} {z : S55} (h : Cut l z l') (hr : RightP a l) : RightP a l' :=
  ⟨hr.1, by have := cut_length h; have := hr.2.1; omega, fun x hx => hr.2.2.1 x (cut_sub h hx), cut_sorted h hr.2.2.2⟩
theorem cut_get {l l' : List S55} {z : S55} (h : Cut l z l') : z ∈ l := by
  obtain ⟨A, B, rfl, _⟩ := h
  simp
/-- Reading one that is the same in both. -/
theorem read_eq (a a' : Int) {l l' : List S55} (hs : Sorted l) (hs' : Sorted l') (o : ByteArray) (h : ∀ x : S55, x.f0 = o → (x ∈ l ↔ x ∈ l')) : disk_Read.f a l o = disk_Read.f a' l' o := by
  by_cases hx : ∃ x ∈ l, x.f0 = o
  · obtain ⟨x, hx, rfl⟩ := hx
    rw [read_mem a hs hx, read_mem a' hs' ((h x rfl).1 hx)]
  · have h1 : ∀ x ∈ l, x.f0 ≠ o := fun x hxl he => hx ⟨x, hxl, he⟩
    have h2 : ∀ x ∈ l', x.f0 ≠ o := fun x hxl he => hx ⟨x, (h x he).2 hxl, he⟩
    rw [read_none a hs h1, read_none a' hs' h2]
theorem read_some (a : Int) {l : List S55} (hs : Sorted l) (o : ByteArray) : ∃ t c, disk_Read.f a l o = some (t, c) := by
  by_cases hx : ∃ x ∈ l, x.f0 = o
  · obtain ⟨x, hx, rfl⟩ := hx
    exact ⟨_, _, read_mem a hs hx⟩
  · exact ⟨_, _, read_none a hs (fun x hxl he => hx ⟨x, hxl, he⟩)⟩
theorem write_put (a : Int) (l : List S55) (s data : ByteArray) (hr : RightP a l) (hsm : Small l) (ha2 : a ≤ 9223372036854775807) (hd : data.size ≤ 140737488351232) (k : Nat) (hk : 70 ≤ k) :
    (∃ e, disk_Write.f k a l s data = some (a, l, e) ∧ e ≠ 0) ∨
    (∃ f l', disk_Write.f k a l s data = some (a, l', 0) ∧ f.f0 = s ∧ f.f1 = data ∧ Put l f l' ∧ RightP a l' ∧ (used l' : Int) ≤ a) := by
  rcases write_is a l s data hr.2.2.2 hr.2.1 hsm hr.1 ha2 hd k hk with h | ⟨A, B, safe, h, hn, h1, h2, hl, hu, hp⟩
  · exact .inl h
  · have hput : Put l ⟨s, data, safe⟩ (A ++ ⟨s, data, safe⟩ :: B) := ⟨A, B, rfl, h1, h2, hp⟩
    exact .inr ⟨_, _, h, rfl, rfl, hput, put_right hput hr hn hl, hu⟩
theorem delete_cut (a : Int) (l : List S55) (s : ByteArray) (hr : RightP a l) :
    (∃ x l', disk_Delete.f a l s = some (a, l', 0) ∧ x.f0 = s ∧ Cut l x l') ∨ ((∀ x ∈ l, x.f0 ≠ s) ∧ disk_Delete.f a l s = some (a, l, 9)) := by
  rcases delete_is a l s hr.2.2.2 hr.2.1 with ⟨A, x, B, rfl, rfl, h1, h2, h⟩ | h
  · exact .inl ⟨x, _, h, rfl, A, B, rfl, h1, h2, rfl⟩
  · exact .inr h
theorem rename_put (a : Int) (l : List S55) (s dst : ByteArray) (hr : RightP a l) :
    ((∀ x ∈ l, x.f0 ≠ s) ∧ disk_Rename.f a l s dst = some (a, l, 9)) ∨ ((∃ x ∈ l, x.f0 = s) ∧ disk_Rename.f a l s dst = some (a, l, 1)) ∨
    (∃ x l1 l', disk_Rename.f a l s dst = some (a, l', 0) ∧ x.f0 = s ∧ Cut l x l1 ∧ Put l1 ⟨dst, x.f1, x.f2⟩ l' ∧ RightP a l') := by
  rcases rename_is a l s dst hr.2.2.2 hr.2.1 with h | h | ⟨A, x, B, C, D, rfl, rfl, h1, h2, hn, g1, g2, hcd, h⟩
  · exact .inl h
  · exact .inr (.inl h)
  · have hcut : Cut (A ++ x :: B) x (A ++ B) := ⟨A, B, rfl, h1, h2, rfl⟩
    have hput : Put (A ++ B) ⟨dst, x.f1, x.f2⟩ (C ++ ⟨dst, x.f1, x.f2⟩ :: D) := ⟨C, D, rfl, g1, g2, hcd⟩
    have hlen : (C ++ ⟨dst, x.f1, x.f2⟩ :: D : List S55).length ≤ 64 := by
      have h3 := put_length hput
      have h4 := cut_length hcut
      have h5 := hr.2.1
      omega
    exact .inr (.inr ⟨x, _, _, h, rfl, hcut, hput, put_right hput (cut_right hcut hr) hn hlen⟩)
theorem crash_right {a : Int} {l : List S55} (hr : RightP a l) (ms : List Int) : RightP a (l.mapIdx (crashAt ms)) := by
  refine ⟨hr.1, by simpa using hr.2.1, fun x hx => ?_, ?_⟩
  · obtain ⟨i, hi, rfl⟩ := List.mem_mapIdx.1 hx
    exact hr.2.2.1 l[i] (List.getElem_mem _)
  · refine List.pairwise_iff_getElem.2 fun i j hi hj hij => ?_
    simp only [List.length_mapIdx] at hi hj
    simp only [List.getElem_mapIdx]
    exact List.pairwise_iff_getElem.1 hr.2.2.2 i j hi hj hij
end Go.Proofs.Ytbpobnlkfpjijaa.Pr
