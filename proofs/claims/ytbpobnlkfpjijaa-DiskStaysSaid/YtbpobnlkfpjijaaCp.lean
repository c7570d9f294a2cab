import Derived.Test.YtbpobnlkfpjijaaAid
import Derived.Laws.CopyOwn
import Derived.Lib.SliceRun
import Derived.Lib.Overlaps
/-! copy and clear of rows whose elements have several cells. -/
namespace Go.Proofs.Aid
set_option linter.unusedSimpArgs false
set_option linter.unusedVariables false
open Go.RowKit
section
variable {P : Program}
theorem run_copy_rows (w : World) (dT sT ty elem : TypeId) (sz g o dLen dCap : Nat) (a : Addr) (sLen sCap : Nat) (cur : List Value) (t : TypeId) (cs : List Value)
    (hu : P.underlying dT = some (.slice elem)) (hs : (P.info? elem).map (·.size) = some sz)
    (hg : w.heap[g]? = some (.cells cur.toArray t (0, 0))) (hn : cs.length = min sLen dLen * sz)
    (hsrc : ∀ j v, cs[j]? = some v → w.cell? (a.add j) = some v) (hfit : o + cs.length ≤ cur.length) (h1 : ∀ v ∈ cs, v.oneCell' = true) :
    (Builtin.copy_ #[dT, sT] ty #[.slice (some ⟨g, o, none⟩) dLen dCap, .slice (some a) sLen sCap]).run P w =
      .ok (goInt (min sLen dLen : Nat)) (w.setRow g (splice cur o cs).toArray) := by
  have hl := run_loadCells_list (P := P) w a cs hsrc
  have hst := run_storeCells_at P g o t cs 0 cur.toArray w hg (by simpa using hfit) h1
  have hm : Nat.min sLen dLen = min sLen dLen := rfl
  rw [hn] at hl
  cases hq : P.info? elem with
  | none => simp [hq] at hs
  | some i =>
    have hi : i.size = sz := by simpa [hq] using hs
    simp [Builtin.copy_, run_underlying hu, Builtin.lenOf, Builtin.firstCells, sizeOf, typeInfo, hq, hi, hm, hl]
    rw [hst]
    simp [Result.andThen, splice]
theorem run_copy_rows_none (w : World) (dT sT ty elem : TypeId) (sz : Nat) (d a : Option Addr) (dLen dCap sLen sCap : Nat) (hu : P.underlying dT = some (.slice elem)) (hs : (P.info? elem).map (·.size) = some sz) (hn : min sLen dLen = 0) :
    (Builtin.copy_ #[dT, sT] ty #[.slice d dLen dCap, .slice a sLen sCap]).run P w = .ok (goInt 0) w := by
  have hm : Nat.min sLen dLen = 0 := hn
  cases hq : P.info? elem with
  | none => simp [hq] at hs
  | some i =>
    have hl : ∀ (x : Addr), (loadCells x 0).run P w = .ok #[] w := fun x => by simpa using run_loadCells_list (P := P) w x [] (by simp)
    cases d <;> cases a <;> simp [Builtin.copy_, run_underlying hu, Builtin.lenOf, Builtin.firstCells, sizeOf, typeInfo, hq, hm, storeCells, hl]
theorem run_copy_splice (w : World) (dT sT elem : TypeId) (sz : Nat) (dp sp : Option Addr) (dLen dCap sLen sCap : Nat)
    (hu : P.underlying dT = some (.slice elem)) (hs : (P.info? elem).map (·.size) = some sz)
    (g off : Nat) (cur : List Value) (t : TypeId) (hg : w.heap[g]? = some (.cells cur.toArray t (0, 0))) (cs : List Value) (hn : cs.length = min sLen dLen * sz) (hz : 0 < sz)
    (hpos : 0 < cs.length → dp = some ⟨g, off, none⟩ ∧ ∃ ad, sp = some ad ∧ ∀ j v, cs[j]? = some v → w.cell? (ad.add j) = some v)
    (hfit : off + cs.length ≤ cur.length) (h1 : ∀ v ∈ cs, v.oneCell' = true) :
    ∃ w', (∀ ty, (Builtin.copy_ #[dT, sT] ty #[.slice dp dLen dCap, .slice sp sLen sCap]).run P w = .ok (goInt (min sLen dLen : Nat)) w') ∧ w'.heap[g]? = some (.cells (splice cur off cs).toArray t (0, 0)) ∧ w'.heap.size = w.heap.size ∧ (∀ k, k ≠ g → w'.heap[k]? = w.heap[k]?) ∧ (∀ B w0, Below B w0 w → B ≤ g → Below B w0 w') := by
  by_cases h0 : min sLen dLen = 0
  · rw [h0, Nat.zero_mul] at hn
    obtain rfl : cs = [] := List.eq_nil_of_length_eq_zero hn
    refine ⟨w, fun ty => ?_, by simpa [splice] using hg, rfl, fun _ _ => rfl, fun _ _ h _ => h⟩
    rw [run_copy_rows_none w dT sT ty elem sz dp sp dLen dCap sLen sCap hu hs h0, h0]
    rfl
  · have hp : 0 < cs.length := by rw [hn]; exact Nat.mul_pos (by omega) hz
    obtain ⟨rfl, ad, rfl, hsrc⟩ := hpos hp
    exact ⟨_, fun ty => run_copy_rows w dT sT ty elem sz g off dLen dCap ad sLen sCap cur t cs hu hs hg hn hsrc hfit h1, setRow_heap w g _ _ t _ hg, by simp [World.setRow], fun k hk => setRow_other w g k _ hk, fun B w0 hb hB => below_setRow hb hB _⟩
theorem run_clear_rows (w : World) (t e ty : TypeId) (z : Value) (ht : P.underlying t = some (.slice e)) (hv : ∀ w, (zeroValue e).run P w = .ok z w) (zs : List Value) (b o n c : Nat) (hzs : (Builtin.zeroCells z.cells n).toList = zs) (hn : 0 < n)
    (cur : List Value) (tt : TypeId) (hg : w.heap[b]? = some (.cells cur.toArray tt (0, 0))) (hfit : o + zs.length ≤ cur.length) (h1 : ∀ v ∈ zs, v.oneCell' = true) :
    (Builtin.clear_ #[t] ty #[.slice (some ⟨b, o, none⟩) n c]).run P w = .ok (.tuple #[]) (w.setRow b (splice cur o zs).toArray) := by
  have hst := run_storeCells_at P b o tt zs 0 cur.toArray w hg (by simpa using hfit) h1
  obtain ⟨m, rfl⟩ : ∃ m, n = m + 1 := ⟨n - 1, by omega⟩
  simp [Builtin.clear_, run_underlying ht, hv, hzs]
  rw [hst]
  simp [Result.andThen, splice]
theorem run_clear_none (w : World) (t e ty : TypeId) (a : Option Addr) (c : Nat) (ht : P.underlying t = some (.slice e)) :
    (Builtin.clear_ #[t] ty #[.slice a 0 c]).run P w = .ok (.tuple #[]) w := by
  cases a <;> simp [Builtin.clear_, run_underlying ht]
/-- The spare or cut elements made zero. -/
theorem run_clear_splice (w : World) (t e : TypeId) (z : Value) (ht : P.underlying t = some (.slice e)) (hv : ∀ w, (zeroValue e).run P w = .ok z w) (b o n c : Nat) (zs : List Value) (hzs : (Builtin.zeroCells z.cells n).toList = zs) (hn : 0 < n)
    (cur : List Value) (tt : TypeId) (hg : w.heap[b]? = some (.cells cur.toArray tt (0, 0))) (hfit : o + zs.length ≤ cur.length) (h1 : ∀ v ∈ zs, v.oneCell' = true) :
    ∃ w', (∀ ty, (Builtin.clear_ #[t] ty #[.slice (some ⟨b, o, none⟩) n c]).run P w = .ok (.tuple #[]) w') ∧ w'.heap[b]? = some (.cells (splice cur o zs).toArray tt (0, 0)) ∧ w'.heap.size = w.heap.size ∧ (∀ k, k ≠ b → w'.heap[k]? = w.heap[k]?) ∧ (∀ B w0, Below B w0 w → B ≤ b → Below B w0 w') :=
  ⟨_, fun ty => run_clear_rows w t e ty z ht hv zs b o n c hzs hn cur tt hg hfit h1, setRow_heap w b _ _ tt _ hg, by simp [World.setRow], fun k hk => setRow_other w b k _ hk, fun B w0 hb hB => below_setRow hb hB _⟩
/-- Two slices in two blocks, the second one a row of the call's own: they don't overlap. -/
theorem run_overlaps_own (w : World) (tS tR e : TypeId) (ht : P.underlying tS = some (.slice e)) (size : Nat) (hz : ∀ w, (Go.sizeOf e).run P w = .ok size w)
    (a b : Addr) (la ca lb cb : Nat) (hne : a.block ≠ b.block) (va : Value) (hca : w.cell? a = some va) (cur : Array Value) (tb : TypeId) (hb : w.heap[b.block]? = some (.cells cur tb (0, 0))) (hcur : cur.size ≠ 0) :
    (Extern.SlicesOverlaps.overlaps #[tS, tS] #[tR] #[.slice (some a) la ca, .slice (some b) lb cb]).run P w = .ok (.bool false) w := by
  have hnb : (a.block != b.block) = true := by simpa using hne
  have hnb' : (a.block == b.block) = false := by simpa using hne
  obtain ⟨tA, kA, hsa⟩ : ∃ tA kA, w.shape? a.block = some (tA, kA + 1) := by
    unfold World.shape?
    cases hh : w.heap[a.block]? with
    | none => simp [World.cell?, hh] at hca
    | some o =>
      cases o with
      | cells c e fr =>
        have hc : c.size ≠ 0 := by
          intro h0
          have h1 : c[a.off]? = none := Array.getElem?_eq_none (by omega)
          simp [World.cell?, hh, h1] at hca
        exact ⟨e, c.size - 1, by rw [Nat.sub_add_cancel (by omega)]⟩
      | _ => simp [World.cell?, hh] at hca
  have hsb : w.shape? b.block = some (tb, cur.size) := by unfold World.shape?; rw [hb]
  have hfb : w.frozen? b = false := by unfold World.frozen?; rw [hb]; simp
  have hfe : w.frozen? { block := b.block, off := cur.size } = false := by unfold World.frozen?; simp only; rw [hb]; simp
  obtain ⟨kB, hkB⟩ : ∃ kB, cur.size = kB := ⟨_, rfl⟩
  rw [hkB] at hsb hfe hcur
  change Sem.run P (α := Value) (do
    let some t := (#[tS, tS] : Array TypeId)[0]? | stuck "slices.overlaps: no parameter types"
    let .slice elem ← underlying t | stuck "slices.overlaps: slice type expected"
    let size ← sizeOf elem
    match (some a : Option Addr), (some b : Option Addr) with
    | some a, some b =>
      if la = 0 ∨ lb = 0 ∨ size = 0 then pure (Value.bool false)
      else if a.block != b.block && (← frozen a) && (← frozen b) then unsupported .addressObserved
      else do
        if a.block != b.block then do
          noView a; noView b
          if ← mayBeOne a b then return Value.bool ((← choose (.extern "sameAddr.stringBytes" 2)) == 1)
        pure (Value.bool (a.block == b.block && a.off < b.off + lb * size && b.off < a.off + la * size))
    | _, _ => pure (Value.bool false)) w = _
  by_cases h0 : la = 0 ∨ lb = 0 ∨ size = 0
  · simp [run_underlying ht, hz, h0]
  · cases kB with
    | zero => exact absurd rfl hcur
    | succ kB =>
      cases hfa : w.frozen? a <;> cases hfk : w.frozen? { block := a.block, off := kA + 1 } <;>
        simp [run_underlying ht, hz, h0, hnb, hnb', frozen, noView, viewAt, mayBeOne, stringish, shape, Sem.run, hsa, hsb, hfa, hfb, hfe, hfk]
end
end Go.Proofs.Aid
