import Derived.Test.YtbpobnlkfpjijaaPr0
import Derived.Laws.Cover1
import Derived.Lib.Hide
import Derived.Lib.Strings
import Derived.Test.YtbpobnlkfpjijaaRows
import Derived.WalkKit
import Derived.ProofKit
import Derived.OpenShut
import Derived.ShutString
import Derived.ChangeOld
import Derived.Below
import Derived.SizedLaws
/-! What a reading tells: rows, structs (what is of no kind of its own). -/
namespace Go.Proofs.Ytbpobnlkfpjijaa.Pr
open Go.RowKit Go.Proofs.YtbpobnlkfpjijaaW.PrintWords Go.Proofs.YtbpobnlkfpjijaaW.PrintLast Go.Proofs.YtbpobnlkfpjijaaW.PrintMore
set_option linter.unusedVariables false
set_option linter.unusedSimpArgs false
def Opens (P : Program) (t : TypeId) {α : Type} (d : Kd α) (G : α → Prop) : Prop :=
  ∀ (H : Type) (enc : TypeId × Value → H) (w : World) (fuel : Nat) (cs : List Value) (x : DataW H × List MemPlace), DataW.trod enc P w 0 (fun _ => true) true fuel t cs = some x → (∀ n ∈ x.1.weights P t, n ≤ 140737488351232) → ∃ y, d.K w y cs ∧ G y
theorem opens_string {P : Program} {t : TypeId} (ht : P.underlying t = some .string) : Opens P t Kd.string (fun s => s.size ≤ 140737488351232) := by
  intro H enc w fuel cs x h hw
  obtain ⟨s, rfl, rfl, _⟩ := DataW.trod_string ht h
  refine ⟨s, rfl, ?_⟩
  have := hw s.data.toList.length (by simp [DataW.weights])
  show s.size ≤ 140737488351232
  rw [Lib.size_eq]
  exact this
theorem opens_int {P : Program} {t : TypeId} {k : IntKind} (ht : P.underlying t = some (.int k)) : Opens P t (Kd.int k) (fun n => (Lit.int k n).wf = true) := by
  intro H enc w fuel cs x h _
  obtain ⟨n, rfl, rfl, hw⟩ := DataW.trod_int ht h
  exact ⟨n, rfl, hw⟩
theorem weightsAll_mem {H : Type} {P : Program} {e : TypeId} {d : DataW H} : ∀ {l : List (DataW H)}, d ∈ l → ∀ n ∈ d.weights P e, n ∈ DataW.weightsAll P e l
  | x :: l, h, n, hn => by
    simp only [DataW.weightsAll, List.mem_append]
    rcases List.mem_cons.1 h with rfl | h
    · exact .inl hn
    · exact .inr (weightsAll_mem h n hn)
theorem opens_slice {P : Program} {t e : TypeId} {α : Type} {d : Kd α} {G : α → Prop} (ht : P.underlying t = some (.slice e)) (hd : Opens P e d G) (hc : d.sz = P.cellsOf e) :
    Opens P t (Kd.slice e d) (fun l => l.length * P.bytesOf e ≤ 140737488351232 ∧ ∀ y ∈ l, G y) := by
  intro H enc w fuel cs x h hw
  rcases DataW.trod_slice ht h with ⟨rfl, rfl⟩ | ⟨a, len, cap, elems, rest, n, _, rfl, rfl, hb, hl, hm, hlen, hel, _, _⟩
  · exact ⟨[], ⟨none, 0, rfl, Nat.le_refl _, Kd.C_nil _ _⟩, by simp, by simp⟩
  · have hw1 : ∀ n ∈ (DataW.slice (elems.map (·.1)) (rest.map (·.1))).weights P t, n ≤ 140737488351232 := hw
    simp only [DataW.weights, ht, List.mem_cons, List.mem_append, List.length_map] at hw1
    have hel2 : ∀ i (hi : i < elems.length), ∃ y, ∃ c, w.cells? 0 (a.add (i * P.cellsOf e)) (P.cellsOf e) = some c ∧ d.K w y c ∧ G y := by
      intro i hi
      have := hel i (by omega)
      rw [List.getElem?_eq_getElem hi, Option.bind_eq_some_iff] at this
      obtain ⟨c, hc1, hc2⟩ := this
      obtain ⟨y, hy, hg⟩ := hd H enc w n c _ hc2 (fun m hm => hw1 m (.inr (.inl (weightsAll_mem (List.mem_map_of_mem (List.getElem_mem hi)) m hm))))
      exact ⟨y, c, hc1, hy, hg⟩
    let f : Fin elems.length → α := fun i => Classical.choose (hel2 i.1 i.2)
    have hf : ∀ i : Fin elems.length, ∃ c, w.cells? 0 (a.add (i.1 * P.cellsOf e)) (P.cellsOf e) = some c ∧ d.K w (f i) c ∧ G (f i) := fun i => Classical.choose_spec (hel2 i.1 i.2)
    have hfl : (List.ofFn f).length = elems.length := List.length_ofFn
    refine ⟨List.ofFn f, ⟨some a, cap, by rw [hfl, hlen], by omega, by omega, ?_, fun _ => ⟨a, rfl, ?_⟩⟩, ?_, ?_⟩
    · have : maxLen ≤ 9223372036854775807 := by unfold maxLen; omega
      omega
    · intro j p hp
      obtain ⟨hj, hp⟩ := List.getElem?_eq_some_iff.1 hp
      rw [List.getElem_ofFn] at hp
      obtain ⟨c, hc1, hK, _⟩ := hf ⟨j, by omega⟩
      rw [hp] at hK
      obtain ⟨_, hcl, hcell⟩ := World.cells?_some hc1
      refine ⟨c, by omega, hK, fun i u hu => ?_⟩
      have hi := (List.getElem?_eq_some_iff.1 hu).1
      rw [hc, ← Addr.add_add, hcell i (by omega)]
      exact hu
    · have := hw1 _ (.inl rfl)
      rw [hfl]
      exact Nat.le_trans (Nat.mul_le_mul_right _ (by omega)) this
    · intro y hy
      obtain ⟨j, hj, hy⟩ := List.getElem_of_mem hy
      rw [List.getElem_ofFn] at hy
      obtain ⟨c, _, _, hG⟩ := hf ⟨j, by omega⟩
      rw [hy] at hG
      exact hG
theorem cells9 : Try.prog.cellsOf 9 = 1 := by kernel_rfl
theorem cells3 : Try.prog.cellsOf 3 = 1 := by kernel_rfl
theorem cells44 : Try.prog.cellsOf 44 = 1 := by kernel_rfl
theorem cells39 : Try.prog.cellsOf 39 = 1 := by kernel_rfl
theorem cells46 : Try.prog.cellsOf 46 = 2 := by kernel_rfl
theorem cells53 : Try.prog.cellsOf 53 = 5 := by kernel_rfl
theorem cells55 : Try.prog.cellsOf 55 = 3 := by kernel_rfl
theorem cells57 : Try.prog.cellsOf 57 = 1 := by kernel_rfl
theorem bytes55 : Try.prog.bytesOf 55 = 48 := by kernel_rfl
theorem bytes57 : Try.prog.bytesOf 57 = 8 := by kernel_rfl
end Go.Proofs.Ytbpobnlkfpjijaa.Pr
