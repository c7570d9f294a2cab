import Derived.Test.YtbpobnlkfpjijaaLb
import Derived.Test.YtbpobnlkfpjijaaRows
import Derived.WalkKit
import Derived.ProofKit
import Derived.OpenShut
import Derived.ShutString
import Derived.ChangeOld
import Derived.Below
import Derived.SizedLaws
/-! What a reading tells: rows, structs. -/
namespace Go.Proofs.Ytbpobnlkfpjijaa.Pr
open Go.RowKit Go.Proofs.YtbpobnlkfpjijaaW.PrintWords Go.Proofs.YtbpobnlkfpjijaaW.PrintLast Go.Proofs.YtbpobnlkfpjijaaW.PrintMore
set_option linter.unusedVariables false
set_option linter.unusedSimpArgs false
def Opens (P : Program) (t : TypeId) {α : Type} (d : Kd α) (G : α → Prop) : Prop :=
  ∀ (H : Type) (enc : TypeId × Value → H) (w : World) (fuel : Nat) (cs : List Value) (x : DataW H × List MemPlace), DataW.trod enc P w 0 (fun _ => true) true fuel t cs = some x → (∀ n ∈ x.1.weights P t, n ≤ 140737488351232) → ∃ y, d.K w y cs ∧ G y
theorem opens_string {P : Program} {t : TypeId} (ht : P.underlying t = some .string) : Opens P t Kd.string (fun s => s.size ≤ 140737488351232) := by
  intro H enc w fuel cs x h hw
  obtain ⟨s, rfl, rfl, _⟩ := DataW.trod_string ht h
  refine ⟨s, rfl, ?_⟩
  have := hw s.data.toList.length (by simp [DataW.weights])
  show s.size ≤ 140737488351232
  rw [Lib.size_eq]
  exact this
theorem opens_int {P : Program} {t : TypeId} {k : IntKind} (ht : P.underlying t = some (.int k)) : Opens P t (Kd.int k) (fun n => (Lit.int k n).wf = true) := by
  intro H enc w fuel cs x h _
  obtain ⟨n, rfl, rfl, hw⟩ := DataW.trod_int ht h
  exact ⟨n, rfl, hw⟩
theorem weightsAll_mem {H : Type} {P : Program} {e : TypeId} {d : DataW H} : ∀ {l : List (DataW H)}, d ∈ l → ∀ n ∈ d.weights P e, n ∈ DataW.weightsAll P e l
  | x :: l, h, n, hn => by
    simp only [DataW.weightsAll, List.mem_append]
    rcases List.mem_cons.1 h with rfl | h
    · exact .inl hn
    · exact .inr (weightsAll_mem h n hn)
theorem opens_slice {P : Program} {t e : TypeId} {α : Type} {d : Kd α} {G : α → Prop} (ht : P.underlying t = some (.slice e)) (hd : Opens P e d G) (hc : d.sz = P.cellsOf e) :
    Opens P t (Kd.slice e d) (fun l => l.length * P.bytesOf e ≤ 140737488351232 ∧ ∀ y ∈ l, G y) := by
  intro H enc w fuel cs x h hw
  rcases DataW.trod_slice ht h with ⟨rfl, rfl⟩ | ⟨a, len, cap, elems, rest, n, _, rfl, rfl, hb, hl, hm, hlen, hel, _, _⟩
  · exact ⟨[], ⟨none, 0, rfl, Nat.le_refl _, Kd.C_nil _ _⟩, by simp, by simp⟩
  · have hw1 : ∀ n ∈ (DataW.slice (elems.map (·.1)) (rest.map (·.1))).weights P t, n ≤ 140737488351232 := hw
    simp only [DataW.weights, ht, List.mem_cons, List.mem_append, List.length_map] at hw1
    have hel2 : ∀ i (hi : i < elems.length), ∃ y, ∃ c, w.cells? 0 (a.add (i * P.cellsOf e)) (P.cellsOf e) = some c ∧ d.K w y c ∧ G y := by
      intro i hi
      have := hel i (by omega)
      rw [List.getElem?_eq_getElem hi, Option.bind_eq_some_iff] at this
      obtain ⟨c, hc1, hc2⟩ := this
      obtain ⟨y, hy, hg⟩ := hd H enc w n c _ hc2 (fun m hm => hw1 m (.inr (.inl (weightsAll_mem (List.mem_map_of_mem (List.getElem_mem hi)) m hm))))
      exact ⟨y, c, hc1, hy, hg⟩
    let f : Fin elems.length → α := fun i => Classical.choose (hel2 i.1 i.2)
    have hf : ∀ i : Fin elems.length, ∃ c, w.cells? 0 (a.add (i.1 * P.cellsOf e)) (P.cellsOf e) = some c ∧ d.K w (f i) c ∧ G (f i) := fun i => Classical.choose_spec (hel2 i.1 i.2)
    have hfl : (List.ofFn f).length = elems.length := List.length_ofFn
    refine ⟨List.ofFn f, ⟨some a, cap, by rw [hfl, hlen], by omega, by omega, ?_, fun _ => ⟨a, rfl, ?_⟩⟩, ?_, ?_⟩
    · have : maxLen ≤ 9223372036854775807 := by unfold maxLen; omega
      omega
    · intro j p hp
      obtain ⟨hj, hp⟩ := List.getElem?_eq_some_iff.1 hp
      rw [List.getElem_ofFn] at hp
      obtain ⟨c, hc1, hK, _⟩ := hf ⟨j, by omega⟩
      rw [hp] at hK
      obtain ⟨_, hcl, hcell⟩ := World.cells?_some hc1
      refine ⟨c, by omega, hK, fun i u hu => ?_⟩
      have hi := (List.getElem?_eq_some_iff.1 hu).1
      rw [hc, ← Addr.add_add, hcell i (by omega)]
      exact hu
    · have := hw1 _ (.inl rfl)
      rw [hfl]
      exact Nat.le_trans (Nat.mul_le_mul_right _ (by omega)) this
    · intro y hy
      obtain ⟨j, hj, hy⟩ := List.getElem_of_mem hy
      rw [List.getElem_ofFn] at hy
      obtain ⟨c, _, _, hG⟩ := hf ⟨j, by omega⟩
      rw [hy] at hG
      exact hG
theorem cells9 : Try.prog.cellsOf 9 = 1 := by kernel_rfl
theorem cells3 : Try.prog.cellsOf 3 = 1 := by kernel_rfl
theorem cells44 : Try.prog.cellsOf 44 = 1 := by kernel_rfl
theorem cells39 : Try.prog.cellsOf 39 = 1 := by kernel_rfl
theorem cells46 : Try.prog.cellsOf 46 = 2 := by kernel_rfl
theorem cells53 : Try.prog.cellsOf 53 = 5 := by kernel_rfl
theorem cells55 : Try.prog.cellsOf 55 = 3 := by kernel_rfl
theorem cells57 : Try.prog.cellsOf 57 = 1 := by kernel_rfl
theorem bytes55 : Try.prog.bytesOf 55 = 48 := by kernel_rfl
theorem bytes57 : Try.prog.bytesOf 57 = 8 := by kernel_rfl
def G55 (y : S55) : Prop := y.f0.size ≤ 140737488351232 ∧ y.f1.size ≤ 140737488351232 ∧ y.f2.size ≤ 140737488351232
theorem opens55 : Opens Try.prog 55 k55 G55 := by
  intro H enc w fuel cs x h hw
  obtain ⟨xs, n, rfl, rfl, hl, hxs, hf⟩ := DataW.trod_struct Try.underlying55 h
  rw [cells55] at hl
  obtain ⟨c0, c1, c2, rfl⟩ : ∃ c0 c1 c2, cs = [c0, c1, c2] := by
    rcases cs with _ | ⟨c0, _ | ⟨c1, _ | ⟨c2, _ | ⟨c3, cs⟩⟩⟩⟩ <;> simp at hl
    exact ⟨_, _, _, rfl⟩
  obtain ⟨x0, x1, x2, rfl⟩ : ∃ x0 x1 x2, xs = [x0, x1, x2] := by
    rcases xs with _ | ⟨c0, _ | ⟨c1, _ | ⟨c2, _ | ⟨c3, cs⟩⟩⟩⟩ <;> simp at hxs
    exact ⟨_, _, _, rfl⟩
  have h0 : DataW.trod enc Try.prog w 0 (fun _ => true) true n 9 ((List.drop 0 [c0, c1, c2]).take (Try.prog.cellsOf 9)) = some x0 := hf 0 _ rfl
  rw [cells9] at h0
  simp only [List.drop_zero, List.drop_succ_cons, List.take_succ_cons, List.take_zero] at h0
  have h1 : DataW.trod enc Try.prog w 0 (fun _ => true) true n 9 ((List.drop 1 [c0, c1, c2]).take (Try.prog.cellsOf 9)) = some x1 := hf 1 _ rfl
  rw [cells9] at h1
  simp only [List.drop_zero, List.drop_succ_cons, List.take_succ_cons, List.take_zero] at h1
  have h2 : DataW.trod enc Try.prog w 0 (fun _ => true) true n 9 ((List.drop 2 [c0, c1, c2]).take (Try.prog.cellsOf 9)) = some x2 := hf 2 _ rfl
  rw [cells9] at h2
  simp only [List.drop_zero, List.drop_succ_cons, List.take_succ_cons, List.take_zero] at h2
  have hw1 : ∀ n ∈ (DataW.agg [x0.1, x1.1, x2.1]).weights Try.prog 55, n ≤ 140737488351232 := hw
  simp only [DataW.weights, Try.underlying55, DataW.weightsEach, List.map_cons, List.map_nil, List.mem_append] at hw1
  obtain ⟨s0, e0, g0⟩ := opens_string Try.underlying9 H enc w n _ _ h0 (fun m hm => hw1 m (.inl hm))
  obtain ⟨s1, e1, g1⟩ := opens_string Try.underlying9 H enc w n _ _ h1 (fun m hm => hw1 m (.inr (.inl hm)))
  obtain ⟨s2, e2, g2⟩ := opens_string Try.underlying9 H enc w n _ _ h2 (fun m hm => hw1 m (.inr (.inr (.inl hm))))
  cases e0; cases e1; cases e2
  exact ⟨⟨s0, s1, s2⟩, k55_mk w ⟨s0, s1, s2⟩, g0, g1, g2⟩
theorem opens44 : Opens Try.prog 44 (Kd.slice 55 k55) (fun l => l.length * 48 ≤ 140737488351232 ∧ ∀ z ∈ l, G55 z) := by
  have := opens_slice Try.underlying44 opens55 (by rw [cells55]; rfl)
  rw [bytes55] at this
  exact this
theorem opens39 : Opens Try.prog 39 (Kd.slice 57 (Kd.int .u64)) (fun l => l.length * 8 ≤ 140737488351232 ∧ ∀ n ∈ l, (Lit.int .u64 n).wf = true) := by
  have := opens_slice Try.underlying39 (opens_int Try.underlying57) (by rw [cells57]; rfl)
  rw [bytes57] at this
  exact this
def G46 (y : S46) : Prop := (Lit.int .i64 y.f0).wf = true ∧ y.f1.length * 48 ≤ 140737488351232 ∧ ∀ z ∈ y.f1, G55 z
theorem opens46 : Opens Try.prog 46 k46 G46 := by
  intro H enc w fuel cs x h hw
  obtain ⟨xs, n, rfl, rfl, hl, hxs, hf⟩ := DataW.trod_struct Try.underlying46 h
  rw [cells46] at hl
  obtain ⟨c0, c1, rfl⟩ : ∃ c0 c1, cs = [c0, c1] := by
    rcases cs with _ | ⟨c0, _ | ⟨c1, _ | ⟨cz, cs⟩⟩⟩ <;> simp at hl
    exact ⟨_, _, rfl⟩
  obtain ⟨x0, x1, rfl⟩ : ∃ x0 x1, xs = [x0, x1] := by
    rcases xs with _ | ⟨c0, _ | ⟨c1, _ | ⟨cz, cs⟩⟩⟩ <;> simp at hxs
    exact ⟨_, _, rfl⟩
  have h0 : DataW.trod enc Try.prog w 0 (fun _ => true) true n 3 ((List.drop 0 [c0, c1]).take (Try.prog.cellsOf 3)) = some x0 := hf 0 _ rfl
  rw [cells3] at h0
  simp only [List.drop_zero, List.drop_succ_cons, List.take_succ_cons, List.take_zero] at h0
  have h1 : DataW.trod enc Try.prog w 0 (fun _ => true) true n 44 ((List.drop 1 [c0, c1]).take (Try.prog.cellsOf 44)) = some x1 := hf 1 _ rfl
  rw [cells44] at h1
  simp only [List.drop_zero, List.drop_succ_cons, List.take_succ_cons, List.take_zero] at h1
  have hw1 : ∀ n ∈ (DataW.agg [x0.1, x1.1]).weights Try.prog 46, n ≤ 140737488351232 := hw
  simp only [DataW.weights, Try.underlying46, DataW.weightsEach, List.map_cons, List.map_nil, List.mem_append] at hw1
  obtain ⟨s0, e0, g0⟩ := opens_int Try.underlying3 H enc w n _ _ h0 (fun m hm => hw1 m (.inl hm))
  obtain ⟨s1, e1, g1⟩ := opens44 H enc w n _ _ h1 (fun m hm => hw1 m (.inr (.inl hm)))
  obtain ⟨A, c, e, l, g⟩ := e1
  cases e0; cases e
  exact ⟨⟨s0, s1⟩, k46_mk w ⟨s0, s1⟩ l g, g0, g1.1, g1.2⟩
/-- The argument of DiskEither. -/
structure S53 where
  d : S46
  ms : List Int
  i : Int
  k : Int
def k53 : Kd S53 := Kd.iso (Kd.pair k46 (Kd.pair (Kd.slice 57 (Kd.int .u64)) (Kd.pair (Kd.int .i64) (Kd.int .i64)))) (fun x : S53 => (x.d, x.ms, x.i, x.k))
def G53 (y : S53) : Prop := G46 y.d ∧ (∀ n ∈ y.ms, (Lit.int .u64 n).wf = true) ∧ (Lit.int .i64 y.i).wf = true ∧ (Lit.int .i64 y.k).wf = true
theorem opens53 : Opens Try.prog 53 k53 G53 := by
  intro H enc w fuel cs x h hw
  obtain ⟨xs, n, rfl, rfl, hl, hxs, hf⟩ := DataW.trod_struct Try.underlying53 h
  rw [cells53] at hl
  obtain ⟨c0, c1, c2, c3, c4, rfl⟩ : ∃ c0 c1 c2 c3 c4, cs = [c0, c1, c2, c3, c4] := by
    rcases cs with _ | ⟨c0, _ | ⟨c1, _ | ⟨c2, _ | ⟨c3, _ | ⟨c4, _ | ⟨cz, cs⟩⟩⟩⟩⟩⟩ <;> simp at hl
    exact ⟨_, _, _, _, _, rfl⟩
  obtain ⟨x0, x1, x2, x3, rfl⟩ : ∃ x0 x1 x2 x3, xs = [x0, x1, x2, x3] := by
    rcases xs with _ | ⟨c0, _ | ⟨c1, _ | ⟨c2, _ | ⟨c3, _ | ⟨cz, cs⟩⟩⟩⟩⟩ <;> simp at hxs
    exact ⟨_, _, _, _, rfl⟩
  have h0 : DataW.trod enc Try.prog w 0 (fun _ => true) true n 46 ((List.drop 0 [c0, c1, c2, c3, c4]).take (Try.prog.cellsOf 46)) = some x0 := hf 0 _ rfl
  rw [cells46] at h0
  simp only [List.drop_zero, List.drop_succ_cons, List.take_succ_cons, List.take_zero] at h0
  have h1 : DataW.trod enc Try.prog w 0 (fun _ => true) true n 39 ((List.drop 2 [c0, c1, c2, c3, c4]).take (Try.prog.cellsOf 39)) = some x1 := hf 1 _ rfl
  rw [cells39] at h1
  simp only [List.drop_zero, List.drop_succ_cons, List.take_succ_cons, List.take_zero] at h1
  have h2 : DataW.trod enc Try.prog w 0 (fun _ => true) true n 3 ((List.drop 3 [c0, c1, c2, c3, c4]).take (Try.prog.cellsOf 3)) = some x2 := hf 2 _ rfl
  rw [cells3] at h2
  simp only [List.drop_zero, List.drop_succ_cons, List.take_succ_cons, List.take_zero] at h2
  have h3 : DataW.trod enc Try.prog w 0 (fun _ => true) true n 3 ((List.drop 4 [c0, c1, c2, c3, c4]).take (Try.prog.cellsOf 3)) = some x3 := hf 3 _ rfl
  rw [cells3] at h3
  simp only [List.drop_zero, List.drop_succ_cons, List.take_succ_cons, List.take_zero] at h3
  have hw1 : ∀ n ∈ (DataW.agg [x0.1, x1.1, x2.1, x3.1]).weights Try.prog 53, n ≤ 140737488351232 := hw
  simp only [DataW.weights, Try.underlying53, DataW.weightsEach, List.map_cons, List.map_nil, List.mem_append] at hw1
  obtain ⟨s0, e0, g0⟩ := opens46 H enc w n _ _ h0 (fun m hm => hw1 m (.inl hm))
  obtain ⟨s1, e1, g1⟩ := opens39 H enc w n _ _ h1 (fun m hm => hw1 m (.inr (.inl hm)))
  obtain ⟨s2, e2, g2⟩ := opens_int Try.underlying3 H enc w n _ _ h2 (fun m hm => hw1 m (.inr (.inr (.inl hm))))
  obtain ⟨s3, e3, g3⟩ := opens_int Try.underlying3 H enc w n _ _ h3 (fun m hm => hw1 m (.inr (.inr (.inr (.inl hm)))))
  obtain ⟨A0, c0', e0', l0', g0'⟩ := k46_open e0
  obtain ⟨A, c, e, l, g⟩ := e1
  cases e0'; cases e; cases e2; cases e3
  exact ⟨⟨s0, s1, s2, s3⟩, ⟨_, _, rfl, e0, _, _, rfl, ⟨A, c, rfl, l, g⟩, _, _, rfl, rfl, rfl⟩, g0, g1.2, g2, g3⟩
end Go.Proofs.Ytbpobnlkfpjijaa.Pr
