import Derived.Test.YtbpobnlkfpjijaaLb
/-! Rows of files by their names: order, places, what is read. -/
namespace Go.Proofs.Ytbpobnlkfpjijaa.Pr
open Go.RowKit Go.Proofs.YtbpobnlkfpjijaaW.PrintWords Go.Proofs.YtbpobnlkfpjijaaW.PrintLast Go.Proofs.YtbpobnlkfpjijaaW.PrintMore
set_option linter.unusedVariables false
set_option linter.unusedSimpArgs false
theorem bl_irrefl : ∀ x : List UInt8, Op.bytesLess x x = false
  | [] => rfl
  | a :: x => by simp [Op.bytesLess, bl_irrefl x]
theorem bl_cons (a b : UInt8) (x y : List UInt8) : Op.bytesLess (a :: x) (b :: y) = true ↔ a.toNat < b.toNat ∨ (a.toNat = b.toNat ∧ Op.bytesLess x y = true) := by
  simp [Op.bytesLess, UInt8.lt_iff_toNat_lt, ← UInt8.toNat_inj]
theorem bl_trans : ∀ {x y z : List UInt8}, Op.bytesLess x y = true → Op.bytesLess y z = true → Op.bytesLess x z = true
  | _, [], _, h, _ => by simp [Op.bytesLess] at h
  | [], _ :: _, [], _, h => by simp [Op.bytesLess] at h
  | [], _ :: _, _ :: _, _, _ => rfl
  | _ :: _, _ :: _, [], _, h => by simp [Op.bytesLess] at h
  | a :: x, b :: y, c :: z, h1, h2 => by
    rw [bl_cons] at h1 h2 ⊢
    rcases h1 with h1 | ⟨h1, h1'⟩ <;> rcases h2 with h2 | ⟨h2, h2'⟩
    · exact .inl (by omega)
    · exact .inl (by omega)
    · exact .inl (by omega)
    · exact .inr ⟨by omega, bl_trans h1' h2'⟩
theorem bl_tri : ∀ {x y : List UInt8}, Op.bytesLess x y = false → Op.bytesLess y x = false → x = y
  | [], [], _, _ => rfl
  | [], _ :: _, h, _ => by simp [Op.bytesLess] at h
  | _ :: _, [], _, h => by simp [Op.bytesLess] at h
  | a :: x, b :: y, h1, h2 => by
    have h1' : ¬ Op.bytesLess (a :: x) (b :: y) = true := by rw [h1]; decide
    have h2' : ¬ Op.bytesLess (b :: y) (a :: x) = true := by rw [h2]; decide
    rw [bl_cons] at h1' h2'
    have e : a.toNat = b.toNat := by omega
    have e1 : Op.bytesLess x y = false := by
      cases hh : Op.bytesLess x y
      · rfl
      · exact absurd (.inr ⟨e, hh⟩) h1'
    have e2 : Op.bytesLess y x = false := by
      cases hh : Op.bytesLess y x
      · rfl
      · exact absurd (.inr ⟨e.symm, hh⟩) h2'
    rw [UInt8.toNat_inj.1 e, bl_tri e1 e2]
/-- A name ahead of another one. -/
def NLt (a b : ByteArray) : Prop := Op.bytesLess a.toList b.toList = true
theorem nlt_irrefl (a : ByteArray) : ¬ NLt a a := by unfold NLt; rw [bl_irrefl]; decide
theorem nlt_trans {a b c : ByteArray} (h1 : NLt a b) (h2 : NLt b c) : NLt a c := bl_trans h1 h2
theorem nlt_tri {a b : ByteArray} (h1 : ¬ NLt a b) (h2 : ¬ NLt b a) : a = b := by
  unfold NLt at h1 h2
  exact eq_toList.1 (bl_tri (by simpa using h1) (by simpa using h2))
theorem nameGe_iff (s x : ByteArray) : nameGe s x = true ↔ ¬ NLt x s := by
  unfold nameGe NLt
  simp
def Sorted (l : List S55) : Prop := l.Pairwise fun x y => NLt x.f0 y.f0
theorem firstGe_spec (s : ByteArray) : ∀ (l : List S55) (i : Nat), (firstGe s l i = -1 ∧ ∀ x ∈ l, NLt x.f0 s) ∨ ∃ A x B, l = A ++ x :: B ∧ firstGe s l i = (i : Int) + A.length ∧ (∀ y ∈ A, NLt y.f0 s) ∧ ¬ NLt x.f0 s
  | [], i => .inl ⟨rfl, by simp⟩
  | x :: l, i => by
    unfold firstGe
    by_cases h : nameGe s x.f0 = true
    · rw [if_pos h]
      exact .inr ⟨[], x, l, rfl, by simp, by simp, (nameGe_iff _ _).1 h⟩
    · rw [if_neg h]
      have hx : NLt x.f0 s := by
        rw [nameGe_iff] at h
        exact Classical.not_not.1 h
      rcases firstGe_spec s l (i + 1) with ⟨h1, h2⟩ | ⟨A, y, B, rfl, h1, h2, h3⟩
      · refine .inl ⟨h1, ?_⟩
        intro y hy
        rcases List.mem_cons.1 hy with rfl | hy
        · exact hx
        · exact h2 y hy
      · refine .inr ⟨x :: A, y, B, rfl, by rw [h1]; simp only [List.length_cons]; omega, ?_, h3⟩
        intro y hy
        rcases List.mem_cons.1 hy with rfl | hy
        · exact hx
        · exact h2 y hy
theorem rd_mid (A B : List S55) (x : S55) : rd_T55 (A ++ x :: B) (A.length : Int) = x := by
  simp [rd_T55]
/-- A name's place among sorted files: there, or between. -/
theorem at_spec (a : Int) (l : List S55) (s : ByteArray) (hs : Sorted l) :
    (∃ A x B, l = A ++ x :: B ∧ disk_at.f a l s = some ((A.length : Int), true) ∧ x.f0 = s ∧ (∀ y ∈ A, NLt y.f0 s) ∧ ∀ y ∈ B, NLt s y.f0) ∨
    (∃ A B, l = A ++ B ∧ disk_at.f a l s = some ((A.length : Int), false) ∧ (∀ y ∈ A, NLt y.f0 s) ∧ ∀ y ∈ B, NLt s y.f0) := by
  rcases firstGe_spec s l 0 with ⟨h1, h2⟩ | ⟨A, x, B, rfl, h1, h2, h3⟩
  · refine .inr ⟨l, [], by simp, ?_, h2, by simp⟩
    unfold disk_at.f
    rw [h1, if_pos (by decide)]
  · have h0 : firstGe s (A ++ x :: B) 0 = (A.length : Int) := by rw [h1]; simp
    have hsB : ∀ y ∈ B, NLt x.f0 y.f0 := by
      have := (List.pairwise_append.1 hs).2.1
      exact (List.pairwise_cons.1 this).1
    have hat : disk_at.f a (A ++ x :: B) s = some ((A.length : Int), x.f0.toList == s.toList) := by
      unfold disk_at.f
      rw [h0, if_neg (by omega), rd_mid]
    by_cases he : x.f0 = s
    · subst he
      exact .inl ⟨A, x, B, rfl, by rw [hat]; simp, rfl, h2, hsB⟩
    · have hlt : NLt s x.f0 := by
        rcases Classical.em (NLt s x.f0) with h | h
        · exact h
        · exact absurd (nlt_tri h3 h) he
      refine .inr ⟨A, x :: B, rfl, ?_, h2, ?_⟩
      · rw [hat]
        have : (x.f0.toList == s.toList) = false := by
          rw [beq_eq_false_iff_ne]
          exact fun h => he (eq_toList.1 h)
        rw [this]
      · intro y hy
        rcases List.mem_cons.1 hy with rfl | hy
        · exact hlt
        · exact nlt_trans hlt (hsB y hy)
theorem sorted_mid {A B : List S55} {f : S55} (hA : Sorted A) (hB : Sorted B) (h1 : ∀ y ∈ A, NLt y.f0 f.f0) (h2 : ∀ y ∈ B, NLt f.f0 y.f0) : Sorted (A ++ f :: B) := by
  refine List.pairwise_append.2 ⟨hA, List.pairwise_cons.2 ⟨h2, hB⟩, ?_⟩
  intro x hx y hy
  rcases List.mem_cons.1 hy with rfl | hy
  · exact h1 x hx
  · exact nlt_trans (h1 x hx) (h2 y hy)
theorem sorted_two {A B : List S55} {s : ByteArray} (hA : Sorted A) (hB : Sorted B) (h1 : ∀ y ∈ A, NLt y.f0 s) (h2 : ∀ y ∈ B, NLt s y.f0) : Sorted (A ++ B) :=
  List.pairwise_append.2 ⟨hA, hB, fun x hx y hy => nlt_trans (h1 x hx) (h2 y hy)⟩
theorem Sorted.left {A B : List S55} (h : Sorted (A ++ B)) : Sorted A := (List.pairwise_append.1 h).1
theorem Sorted.right {A B : List S55} (h : Sorted (A ++ B)) : Sorted B := (List.pairwise_append.1 h).2.1
theorem Sorted.tail {B : List S55} {x : S55} (h : Sorted (x :: B)) : Sorted B := (List.pairwise_cons.1 h).2
theorem nlt_ne {a b : ByteArray} (h : NLt a b) : a ≠ b := fun e => nlt_irrefl b (e ▸ h)
theorem sorted_one {l : List S55} (h : Sorted l) {x y : S55} (hx : x ∈ l) (hy : y ∈ l) (e : x.f0 = y.f0) : x = y := by
  induction l with
  | nil => cases hx
  | cons z l ih =>
    obtain ⟨h1, h2⟩ := List.pairwise_cons.1 h
    rcases List.mem_cons.1 hx with hx' | hx' <;> rcases List.mem_cons.1 hy with hy' | hy'
    · rw [hx', hy']
    · subst hx'
      exact absurd e (nlt_ne (h1 y hy'))
    · subst hy'
      exact absurd e.symm (nlt_ne (h1 x hx'))
    · exact ih h2 hx' hy'
theorem read_mem (a : Int) {l : List S55} (hs : Sorted l) {x : S55} (hx : x ∈ l) : disk_Read.f a l x.f0 = some (x.f1, 0) := by
  rcases at_spec a l x.f0 hs with ⟨A, y, B, rfl, hat, he, _, _⟩ | ⟨A, B, rfl, _, h1, h2⟩
  · have hxy : y = x := sorted_one hs (by simp) hx he
    subst hxy
    unfold disk_Read.f
    rw [hat]
    simp [rd_mid]
    omega
  · rcases List.mem_append.1 hx with h | h
    · exact absurd (h1 x h) (nlt_irrefl _)
    · exact absurd (h2 x h) (nlt_irrefl _)
theorem read_none (a : Int) {l : List S55} (hs : Sorted l) {s : ByteArray} (h : ∀ x ∈ l, x.f0 ≠ s) : disk_Read.f a l s = some (⟨#[]⟩, 9) := by
  rcases at_spec a l s hs with ⟨A, y, B, rfl, hat, he, _, _⟩ | ⟨A, B, rfl, hat, h1, h2⟩
  · exact absurd he (h y (by simp))
  · unfold disk_Read.f
    rw [hat]
    simp
end Go.Proofs.Ytbpobnlkfpjijaa.Pr
