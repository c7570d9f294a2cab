import Derived.Test.YtbpobnlkfpjijaaWMore
/-! Aids of our own: cells behind stores, lengths. -/
namespace Go.Proofs.Aid
set_option linter.unusedSimpArgs false
set_option linter.unusedVariables false
set_option linter.unnecessarySimpa false
open Go.RowKit Go.Proofs.YtbpobnlkfpjijaaW.PrintWords
theorem cell_set_row (w : World) (B o o1 : Nat) (v : Value) : (w.setCell ⟨B, o, none⟩ v).cell? ⟨B, o1, none⟩ = if o = o1 then (w.cell? ⟨B, o, none⟩).map (fun _ => v) else w.cell? ⟨B, o1, none⟩ := by
  split
  · rename_i h; subst h
    cases hc : w.cell? ⟨B, o, none⟩ with
    | none =>
      simp only [World.cell?, World.setCell, Array.getElem?_modify] at hc ⊢
      cases hb : w.heap[B]? with
      | none => simp
      | some ob => cases ob <;> simp_all
    | some u => exact World.cell?_setCell_same w _ _ hc
  · rename_i h; exact World.cell?_setCell_other w _ _ _ (by simp [h])
theorem readsRow_len {α : Type} {R : α → List Value → Prop} {sz n m : Nat} {w : World} {A : Option Addr} {ps : List α} (e : n = m) (h : ReadsRow R sz w A n ps) : ReadsRow R sz w A m ps := e ▸ h
/-- The block in which a shared row lies. -/
theorem V_block {α : Type} {d : Kd α} {e base n c : Nat} {ok : Nat → Prop} {W : World} {ad : Addr} {xs : List α} (h : Kd.V d e W base ok (.slice (some ad) n c) xs) (i : Int) (h0 : 0 ≤ i) (h1 : i < (xs.length : Int)) (hs : 0 < d.sz) : ok ad.block := by
  have hF := (Kd.V_at h).2.2
  rcases xs with _ | ⟨x, xs⟩
  · simp at h1; omega
  · obtain ⟨ad', _, he, _, _, _, hb⟩ := Kd.F_get hF x i h0 h1
    injection he with he; subst he
    exact hb hs
/-- 'xs[:j:j]'. -/
theorem cut_to_cap {P : Program} (t e : TypeId) (kh : IntKind) {i : TypeInfo} (ht : P.underlying t = some (.slice e)) (hi : P.info? e = some i) (A : Option Addr) (n c : Nat) (j : Int) (h0 : 0 ≤ j) (hm : j ≤ n) (hc : n ≤ c) :
    ∀ W : World, (Instr.slice t (.slice A n c) none (some (.int kh j)) (some (.int kh j))).run P W = .ok (.slice A j.toNat j.toNat) W := by
  intro W
  have hel : P.elem t = e := by simp [Program.elem, ht]
  have hu : P.underlying t = some (.slice (P.elem t)) := by rw [hel]; exact ht
  have ha : (A.map fun x => x.add 0) = A := by cases A <;> simp [Addr.add]
  rw [run_slice_hm W t A n c hu kh kh j j h0 (Int.le_refl _) (by omega), hel]
  simp [sizeOf, typeInfo, hi, sliced, Result.andThen, ha]
section
variable {P : Program} {ops : Array Oper} {rest : List Oper} {o : Oper} {a : Act} {Q : Exit → Act → World → Prop} {α : Type}
/-- 'make([]T, 0, c)'. -/
theorem R_make_cap (d : Kd α) {w0 W : World} (base e : Nat) (hgd : o.guard = none) {N : Tmp} (hd : o.dst = some N) (t : TypeId) (x y : Operand) (ho : o.op = .makeSlice t x y) (n : Int) (hx : a.eval x = .int .i64 0) (hy : a.eval y = .int .i64 n)
    (ht : P.underlying t = some (.slice e)) (z : Value) (bytes : Nat) (hinfo : (P.info? e).map (fun i => (i.zero, i.size, i.bytes)) = some (some z, d.sz, bytes)) (hz : z.cells.size = d.sz) (hs0 : 0 < d.sz) (hb0 : 0 < bytes)
    {ok : Nat → Prop} (hfresh : ok W.heap.size) (h0 : 0 ≤ n) (hl : n.toNat * bytes ≤ 281474976710656) (HB : Below base w0 W) (hbase : base ≤ W.heap.size)
    (h : ∀ v1 w1, d.R e w1 base ok v1 [] → Below base w0 w1 → W.grownBy w1 none → (∃ b, v1.ownBlock = some b ∧ W.heap.size ≤ b) → wpList P ops Q rest (a.put o.dst v1) w1) : wpList P ops Q (o :: rest) a W := by
  obtain ⟨m, rfl⟩ := Int.eq_ofNat_of_zero_le h0
  simp only [Int.toNat_natCast] at hl
  obtain ⟨i0, hi, hzz⟩ := Option.map_eq_some_iff.1 hinfo
  simp only [Prod.mk.injEq] at hzz
  obtain ⟨hz0, hz1, hz2⟩ := hzz
  have hm : m ≤ 281474976710656 := Nat.le_trans (Nat.le_mul_of_pos_right _ hb0) hl
  have hr := run_make (P := P) W t e i0 z ht hi hz0 .i64 .i64 (0 : Int) (m : Int) (by omega) (by omega)
    (by
      have h3 : ((i0.bytes * m : Nat) : Int) ≤ 281474976710656 := by rw [hz2, Nat.mul_comm]; omega
      rwa [Int.natCast_mul] at h3) (by omega)
  simp only [Int.toNat_natCast] at hr
  rw [hz1] at hr
  refine wpList_plain hgd fun K hK => ?_
  unfold Oper.wp execOp
  simp only [ho, hx, hy, hr, Sem.run_bind, Sem.run_pure, Result.andThen_ok]
  have hR : d.R e (W.alloc (.cells (madeCells z.cells (m * d.sz)) e)) base ok (.slice (some ⟨W.heap.size, 0, none⟩) 0 m) [] := by
    refine ⟨fun k hk => ?_, [], ⟨by simp, .inr ⟨W.heap.size, m, _, rfl, hbase, heap_alloc_new W _, by simp, by simp only [maxLen]; omega, by simp [size_madeCells], by simp⟩⟩, Reps.none _ _⟩
    simp [Value.ownBlock] at hk
    subst hk
    exact hfresh
  exact hK _ _ (h _ _ hR (HB.alloc hbase _) (World.grownBy_alloc _ _ _) ⟨W.heap.size, by simp [Value.ownBlock], Nat.le_refl _⟩)
end
end Go.Proofs.Aid
