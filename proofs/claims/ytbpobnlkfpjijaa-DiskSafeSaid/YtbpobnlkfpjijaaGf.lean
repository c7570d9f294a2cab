import Derived.Test.YtbpobnlkfpjijaaAid
import Derived.Laws.CopyOwn
import Derived.Lib.SliceRun
import Derived.Lib.Overlaps
import Derived.Test.YtbpobnlkfpjijaaGd
import Derived.Lib.AppendZerosOnto
import Derived.OwnWalk
/-! copy and clear of rows whose elements have several cells. -/
namespace Go.Proofs.Aid
set_option linter.unusedSimpArgs false
set_option linter.unusedVariables false
open Go.RowKit
section
variable {P : Program}
theorem run_copy_rows (w : World) (dT sT ty elem : TypeId) (sz g o dLen dCap : Nat) (a : Addr) (sLen sCap : Nat) (cur : List Value) (t : TypeId) (cs : List Value)
    (hu : P.underlying dT = some (.slice elem)) (hs : (P.info? elem).map (·.size) = some sz)
    (hg : w.heap[g]? = some (.cells cur.toArray t (0, 0))) (hn : cs.length = min sLen dLen * sz)
    (hsrc : ∀ j v, cs[j]? = some v → w.cell? (a.add j) = some v) (hfit : o + cs.length ≤ cur.length) (h1 : ∀ v ∈ cs, v.oneCell' = true) :
    (Builtin.copy_ #[dT, sT] ty #[.slice (some ⟨g, o, none⟩) dLen dCap, .slice (some a) sLen sCap]).run P w =
      .ok (goInt (min sLen dLen : Nat)) (w.setRow g (splice cur o cs).toArray) := by
  have hl := run_loadCells_list (P := P) w a cs hsrc
  have hst := run_storeCells_at P g o t cs 0 cur.toArray w hg (by simpa using hfit) h1
  have hm : Nat.min sLen dLen = min sLen dLen := rfl
  rw [hn] at hl
  cases hq : P.info? elem with
  | none => simp [hq] at hs
  | some i =>
    have hi : i.size = sz := by simpa [hq] using hs
    simp [Builtin.copy_, run_underlying hu, Builtin.lenOf, Builtin.firstCells, sizeOf, typeInfo, hq, hi, hm, hl]
    rw [hst]
    simp [Result.andThen, splice]
theorem run_copy_rows_none (w : World) (dT sT ty elem : TypeId) (sz : Nat) (d a : Option Addr) (dLen dCap sLen sCap : Nat) (hu : P.underlying dT = some (.slice elem)) (hs : (P.info? elem).map (·.size) = some sz) (hn : min sLen dLen = 0) :
    (Builtin.copy_ #[dT, sT] ty #[.slice d dLen dCap, .slice a sLen sCap]).run P w = .ok (goInt 0) w := by
  have hm : Nat.min sLen dLen = 0 := hn
  cases hq : P.info? elem with
  | none => simp [hq] at hs
  | some i =>
    have hl : ∀ (x : Addr), (loadCells x 0).run P w = .ok #[] w := fun x => by simpa using run_loadCells_list (P := P) w x [] (by simp)
    cases d <;> cases a <;> simp [Builtin.copy_, run_underlying hu, Builtin.lenOf, Builtin.firstCells, sizeOf, typeInfo, hq, hm, storeCells, hl]
theorem run_copy_splice (w : World) (dT sT elem : TypeId) (sz : Nat) (dp sp : Option Addr) (dLen dCap sLen sCap : Nat)
    (hu : P.underlying dT = some (.slice elem)) (hs : (P.info? elem).map (·.size) = some sz)
    (g off : Nat) (cur : List Value) (t : TypeId) (hg : w.heap[g]? = some (.cells cur.toArray t (0, 0))) (cs : List Value) (hn : cs.length = min sLen dLen * sz) (hz : 0 < sz)
    (hpos : 0 < cs.length → dp = some ⟨g, off, none⟩ ∧ ∃ ad, sp = some ad ∧ ∀ j v, cs[j]? = some v → w.cell? (ad.add j) = some v)
    (hfit : off + cs.length ≤ cur.length) (h1 : ∀ v ∈ cs, v.oneCell' = true) :
    ∃ w', (∀ ty, (Builtin.copy_ #[dT, sT] ty #[.slice dp dLen dCap, .slice sp sLen sCap]).run P w = .ok (goInt (min sLen dLen : Nat)) w') ∧ w'.heap[g]? = some (.cells (splice cur off cs).toArray t (0, 0)) ∧ w'.heap.size = w.heap.size ∧ (∀ k, k ≠ g → w'.heap[k]? = w.heap[k]?) ∧ (∀ B w0, Below B w0 w → B ≤ g → Below B w0 w') := by
  by_cases h0 : min sLen dLen = 0
  · rw [h0, Nat.zero_mul] at hn
    obtain rfl : cs = [] := List.eq_nil_of_length_eq_zero hn
    refine ⟨w, fun ty => ?_, by simpa [splice] using hg, rfl, fun _ _ => rfl, fun _ _ h _ => h⟩
    rw [run_copy_rows_none w dT sT ty elem sz dp sp dLen dCap sLen sCap hu hs h0, h0]
    rfl
  · have hp : 0 < cs.length := by rw [hn]; exact Nat.mul_pos (by omega) hz
    obtain ⟨rfl, ad, rfl, hsrc⟩ := hpos hp
    exact ⟨_, fun ty => run_copy_rows w dT sT ty elem sz g off dLen dCap ad sLen sCap cur t cs hu hs hg hn hsrc hfit h1, setRow_heap w g _ _ t _ hg, by simp [World.setRow], fun k hk => setRow_other w g k _ hk, fun B w0 hb hB => below_setRow hb hB _⟩
theorem run_clear_rows (w : World) (t e ty : TypeId) (z : Value) (ht : P.underlying t = some (.slice e)) (hv : ∀ w, (zeroValue e).run P w = .ok z w) (zs : List Value) (b o n c : Nat) (hzs : (Builtin.zeroCells z.cells n).toList = zs) (hn : 0 < n)
    (cur : List Value) (tt : TypeId) (hg : w.heap[b]? = some (.cells cur.toArray tt (0, 0))) (hfit : o + zs.length ≤ cur.length) (h1 : ∀ v ∈ zs, v.oneCell' = true) :
    (Builtin.clear_ #[t] ty #[.slice (some ⟨b, o, none⟩) n c]).run P w = .ok (.tuple #[]) (w.setRow b (splice cur o zs).toArray) := by
  have hst := run_storeCells_at P b o tt zs 0 cur.toArray w hg (by simpa using hfit) h1
  obtain ⟨m, rfl⟩ : ∃ m, n = m + 1 := ⟨n - 1, by omega⟩
  simp [Builtin.clear_, run_underlying ht, hv, hzs]
  rw [hst]
  simp [Result.andThen, splice]
theorem run_clear_none (w : World) (t e ty : TypeId) (a : Option Addr) (c : Nat) (ht : P.underlying t = some (.slice e)) :
    (Builtin.clear_ #[t] ty #[.slice a 0 c]).run P w = .ok (.tuple #[]) w := by
  cases a <;> simp [Builtin.clear_, run_underlying ht]
/-- The spare or cut elements made zero. -/
theorem run_clear_splice (w : World) (t e : TypeId) (z : Value) (ht : P.underlying t = some (.slice e)) (hv : ∀ w, (zeroValue e).run P w = .ok z w) (b o n c : Nat) (zs : List Value) (hzs : (Builtin.zeroCells z.cells n).toList = zs) (hn : 0 < n)
    (cur : List Value) (tt : TypeId) (hg : w.heap[b]? = some (.cells cur.toArray tt (0, 0))) (hfit : o + zs.length ≤ cur.length) (h1 : ∀ v ∈ zs, v.oneCell' = true) :
    ∃ w', (∀ ty, (Builtin.clear_ #[t] ty #[.slice (some ⟨b, o, none⟩) n c]).run P w = .ok (.tuple #[]) w') ∧ w'.heap[b]? = some (.cells (splice cur o zs).toArray tt (0, 0)) ∧ w'.heap.size = w.heap.size ∧ (∀ k, k ≠ b → w'.heap[k]? = w.heap[k]?) ∧ (∀ B w0, Below B w0 w → B ≤ b → Below B w0 w') :=
  ⟨_, fun ty => run_clear_rows w t e ty z ht hv zs b o n c hzs hn cur tt hg hfit h1, setRow_heap w b _ _ tt _ hg, by simp [World.setRow], fun k hk => setRow_other w b k _ hk, fun B w0 hb hB => below_setRow hb hB _⟩
/-- Two slices in two blocks, the second one a row of the call's own: they don't overlap. -/
theorem run_overlaps_own (w : World) (tS tR e : TypeId) (ht : P.underlying tS = some (.slice e)) (size : Nat) (hz : ∀ w, (Go.sizeOf e).run P w = .ok size w)
    (a b : Addr) (la ca lb cb : Nat) (hne : a.block ≠ b.block) (va : Value) (hca : w.cell? a = some va) (cur : Array Value) (tb : TypeId) (hb : w.heap[b.block]? = some (.cells cur tb (0, 0))) (hcur : cur.size ≠ 0) :
    (Extern.SlicesOverlaps.overlaps #[tS, tS] #[tR] #[.slice (some a) la ca, .slice (some b) lb cb]).run P w = .ok (.bool false) w := by
  have hnb : (a.block != b.block) = true := by simpa using hne
  have hnb' : (a.block == b.block) = false := by simpa using hne
  obtain ⟨tA, kA, hsa⟩ : ∃ tA kA, w.shape? a.block = some (tA, kA + 1) := by
    unfold World.shape?
    cases hh : w.heap[a.block]? with
    | none => simp [World.cell?, hh] at hca
    | some o =>
      cases o with
      | cells c e fr =>
        have hc : c.size ≠ 0 := by
          intro h0
          have h1 : c[a.off]? = none := Array.getElem?_eq_none (by omega)
          simp [World.cell?, hh, h1] at hca
        exact ⟨e, c.size - 1, by rw [Nat.sub_add_cancel (by omega)]⟩
      | _ => simp [World.cell?, hh] at hca
  have hsb : w.shape? b.block = some (tb, cur.size) := by unfold World.shape?; rw [hb]
  have hfb : w.frozen? b = false := by unfold World.frozen?; rw [hb]; simp
  have hfe : w.frozen? { block := b.block, off := cur.size } = false := by unfold World.frozen?; simp only; rw [hb]; simp
  obtain ⟨kB, hkB⟩ : ∃ kB, cur.size = kB := ⟨_, rfl⟩
  rw [hkB] at hsb hfe hcur
  change Sem.run P (α := Value) (do
    let some t := (#[tS, tS] : Array TypeId)[0]? | stuck "slices.overlaps: no parameter types"
    let .slice elem ← underlying t | stuck "slices.overlaps: slice type expected"
    let size ← sizeOf elem
    match (some a : Option Addr), (some b : Option Addr) with
    | some a, some b =>
      if la = 0 ∨ lb = 0 ∨ size = 0 then pure (Value.bool false)
      else if a.block != b.block && (← frozen a) && (← frozen b) then unsupported .addressObserved
      else do
        if a.block != b.block then do
          noView a; noView b
          if ← mayBeOne a b then return Value.bool ((← choose (.extern "sameAddr.stringBytes" 2)) == 1)
        pure (Value.bool (a.block == b.block && a.off < b.off + lb * size && b.off < a.off + la * size))
    | _, _ => pure (Value.bool false)) w = _
  by_cases h0 : la = 0 ∨ lb = 0 ∨ size = 0
  · simp [run_underlying ht, hz, h0]
  · cases kB with
    | zero => exact absurd rfl hcur
    | succ kB =>
      cases hfa : w.frozen? a <;> cases hfk : w.frozen? { block := a.block, off := kA + 1 } <;>
        simp [run_underlying ht, hz, h0, hnb, hnb', frozen, noView, viewAt, mayBeOne, stringish, shape, Sem.run, hsa, hsb, hfa, hfb, hfe, hfk]
end
end Go.Proofs.Aid

/-! Rows of files, cell by cell. -/
namespace Go.Proofs.Ytbpobnlkfpjijaa.Pr
open Go.RowKit Go.Proofs.YtbpobnlkfpjijaaW.PrintWords Go.Proofs.YtbpobnlkfpjijaaW.PrintLast Go.Proofs.YtbpobnlkfpjijaaW.PrintMore
set_option linter.unusedVariables false
set_option linter.unusedSimpArgs false
def enc55 (x : S55) : List Value := [.string x.f0, .string x.f1, .string x.f2]
def encs55 (l : List S55) : List Value := l.flatMap enc55
theorem encs_nil : encs55 [] = [] := rfl
theorem encs_cons (x : S55) (l : List S55) : encs55 (x :: l) = enc55 x ++ encs55 l := rfl
theorem encs_append (l m : List S55) : encs55 (l ++ m) = encs55 l ++ encs55 m := by simp [encs55]
theorem encs_length (l : List S55) : (encs55 l).length = l.length * 3 := by
  induction l with
  | nil => rfl
  | cons x l ih => rw [encs_cons, List.length_append, ih, List.length_cons]; simp [enc55]; omega
theorem enc_length (x : S55) : (enc55 x).length = 3 := rfl
theorem encs_one (l : List S55) : ∀ v ∈ encs55 l, v.oneCell' = true := by
  intro v hv
  obtain ⟨x, _, hx⟩ := List.mem_flatMap.1 hv
  simp only [enc55, List.mem_cons, List.not_mem_nil, or_false] at hx
  rcases hx with rfl | rfl | rfl <;> rfl
theorem enc_one (x : S55) : ∀ v ∈ enc55 x, v.oneCell' = true := by
  have := encs_one [x]
  simpa [encs55] using this
theorem reps_encs {R : S55 → List Value → Prop} (hR : ∀ x c, R x c → c = enc55 x) : ∀ (l : List S55) (cs : List Value), Reps R 3 l cs → cs = encs55 l
  | [], cs, h => by
    have := h.1
    simp at this
    rw [this]; rfl
  | x :: l, cs, h => by
    have h0 := hR _ _ (h.2 0 x rfl)
    simp only [Nat.zero_mul, List.drop_zero] at h0
    have hl := h.1
    rw [List.length_cons] at hl
    have ht := reps_encs hR l (cs.drop 3) ⟨by rw [List.length_drop]; omega, fun j p hj => by
      have := h.2 (j + 1) p (by simpa using hj)
      rw [show (j + 1) * 3 = 3 + j * 3 by omega] at this
      rw [List.drop_drop]
      exact this⟩
    rw [encs_cons, ← h0, ← ht, List.take_append_drop]
theorem encs_reps {R : S55 → List Value → Prop} (hR : ∀ x, R x (enc55 x)) : ∀ (l : List S55), Reps R 3 l (encs55 l)
  | [] => Reps.none _ _
  | x :: l => by
    have ih := encs_reps hR l
    refine ⟨by rw [encs_length], fun j p hj => ?_⟩
    cases j with
    | zero =>
      simp at hj
      subst hj
      rw [encs_cons]
      simp only [Nat.zero_mul, List.drop_zero]
      exact hR _
    | succ j =>
      have := ih.2 j p (by simpa using hj)
      rw [encs_cons, show (j + 1) * 3 = (enc55 x).length + j * 3 by rw [enc_length]; omega, ← List.drop_drop, List.drop_left]
      exact this
/-- An own row's block. -/
theorem R_open55 {w : World} {base g n cv : Nat} {ok : Nat → Prop} {l : List S55} (h : k55.R 55 w base ok (.slice (some ⟨g, 0, none⟩) n cv) l) :
    n = l.length ∧ base ≤ g ∧ g < w.heap.size ∧ n ≤ cv ∧ cv ≤ maxLen ∧ ∃ rest : List Value, w.heap[g]? = some (.cells (encs55 l ++ rest).toArray 55 (0, 0)) ∧ (encs55 l ++ rest).length = cv * 3 := by
  obtain ⟨_, inner, ⟨hlen, h2⟩, hr⟩ := h
  rcases h2 with ⟨he, _⟩ | ⟨g', cap, cur, he, hb, hh, hn, hm, hcs, htake⟩
  · cases he
  · injection he with he1 he2 he3
    injection he1 with he1
    injection he1 with he1 _ _
    subst he1; subst he2; subst he3
    have hi : inner = encs55 l := reps_encs (fun x c hx => k55_openM hx) l inner hr
    have htake' : cur.toList.take (l.length * 3) = inner := htake
    rw [hi] at htake'
    have hlt : g < w.heap.size := (Array.getElem?_eq_some_iff.1 hh).1
    have hcs' : cur.size = cv * 3 := hcs
    refine ⟨rfl, hb, hlt, hn, hm, cur.toList.drop (l.length * 3), ?_, ?_⟩
    · rw [← htake', List.take_append_drop]; simpa using hh
    · rw [← htake', List.take_append_drop]; simpa using hcs'
theorem R_close55 {w : World} {base g cv : Nat} {l : List S55} (hb : base ≤ g) (rest : List Value) (hh : w.heap[g]? = some (.cells (encs55 l ++ rest).toArray 55 (0, 0))) (hl : (encs55 l ++ rest).length = cv * 3) (hn : l.length ≤ cv) (hm : cv ≤ maxLen) :
    k55.R 55 w base (fun _ => True) (.slice (some ⟨g, 0, none⟩) l.length cv) l := by
  refine ⟨fun _ _ => trivial, encs55 l, ⟨encs_length l, .inr ⟨g, cv, (encs55 l ++ rest).toArray, rfl, hb, hh, hn, hm, by show (encs55 l ++ rest).toArray.size = cv * 3; simpa using hl, ?_⟩⟩, encs_reps (fun x => k55_mkM _ _ _ x) l⟩
  show (encs55 l ++ rest).toArray.toList.take (l.length * 3) = encs55 l
  rw [← encs_length]
  simp
/-- One file that is handed in: its cells. -/
theorem C_one55 {w : World} {A : Option Addr} {x : S55} (h : Kd.C k55 w A 1 [x]) : ∃ ad, A = some ad ∧ ∀ j v, (enc55 x)[j]? = some v → w.cell? (ad.add j) = some v := by
  obtain ⟨ad, he, hc⟩ := h.2.2 (by decide)
  obtain ⟨c, _, hK, hcc⟩ := hc 0 x rfl
  obtain rfl := k55_open hK
  refine ⟨ad, he, fun j v hj => ?_⟩
  have := hcc j v hj
  rwa [Nat.zero_mul, Nat.zero_add] at this
theorem splice_insert (T D X rest : List Value) : 
    splice (splice (T ++ (D ++ rest)) (T.length + X.length) D) T.length X = T ++ (X ++ (D ++ (T ++ (D ++ rest)).drop (T.length + X.length + D.length))) ∨ rest.length < X.length := by
  rcases Nat.lt_or_ge rest.length X.length with h | h
  · exact .inr h
  · left
    have h1 : ((T ++ (D ++ rest)).take (T.length + X.length)).length = T.length + X.length := by
      rw [List.length_take, List.length_append, List.length_append]; omega
    have h2 : ((T ++ (D ++ rest)).take (T.length + X.length)).take T.length = T := by
      rw [List.take_take, Nat.min_eq_left (by omega), List.take_left]
    unfold splice
    rw [List.take_append_of_le_length (by omega), h2, List.drop_append, h1]
    rw [List.drop_eq_nil_of_le (by omega), Nat.sub_self, List.drop_zero, List.nil_append]
theorem copy_row {W : World} (g off : Nat) (cur : List Value) (hg : W.heap[g]? = some (.cells cur.toArray 55 (0, 0))) (cs : List Value) (dp sp : Option Addr) (dLen dCap sLen sCap : Nat) (hn : cs.length = min sLen dLen * 3)
    (hpos : 0 < cs.length → dp = some ⟨g, off, none⟩ ∧ ∃ ad, sp = some ad ∧ ∀ j v, cs[j]? = some v → W.cell? (ad.add j) = some v) (hfit : off + cs.length ≤ cur.length) (h1 : ∀ v ∈ cs, v.oneCell' = true) :
    ∃ W', (∀ ty, (Builtin.copy_ #[44, 44] ty #[.slice dp dLen dCap, .slice sp sLen sCap]).run Try.prog W = .ok (goInt (min sLen dLen : Nat)) W') ∧ W'.heap[g]? = some (.cells (splice cur off cs).toArray 55 (0, 0)) ∧ W'.heap.size = W.heap.size ∧ (∀ k, k ≠ g → W'.heap[k]? = W.heap[k]?) ∧ (∀ B w0, Below B w0 W → B ≤ g → Below B w0 W') :=
  Go.Proofs.Aid.run_copy_splice (P := Try.prog) W 44 44 55 3 dp sp dLen dCap sLen sCap Try.underlying44 (by obtain ⟨i, hi, _, hs, _⟩ := info_parts info55; rw [hi]; simp [hs]) g off cur 55 hg cs hn (by decide) hpos hfit h1
theorem cells_part {W : World} (g off : Nat) (A cs B : List Value) (hg : W.heap[g]? = some (.cells (A ++ (cs ++ B)).toArray 55 (0, 0))) (ho : off = A.length) : ∀ j v, cs[j]? = some v → W.cell? ((⟨g, off, none⟩ : Addr).add j) = some v := by
  intro j v hj
  have hl := (List.getElem?_eq_some_iff.1 hj).1
  have hadd : (⟨g, off, none⟩ : Addr).add j = ⟨g, off + j, none⟩ := by unfold Addr.add; split <;> simp_all
  rw [hadd, ho]
  simp only [World.cell?, hg]
  simp
  rw [List.getElem?_append_right (by omega), Nat.add_sub_cancel_left, List.getElem?_append_left hl]
  exact hj
end Go.Proofs.Ytbpobnlkfpjijaa.Pr

/-! slices.Insert and Replace at the end of a row: one more, one for the last one. -/
namespace Go.Proofs.Ytbpobnlkfpjijaa.Pr
open Go.RowKit Go.Proofs.YtbpobnlkfpjijaaW.PrintWords Go.Proofs.YtbpobnlkfpjijaaW.PrintLast Go.Proofs.YtbpobnlkfpjijaaW.PrintMore
set_option linter.unusedVariables false
set_option linter.unusedSimpArgs false
attribute [local go_sem] max2_int min2_int max_two min_two max_three min_three max_four min_four Go.Proofs.Aid.cell_set_row
set_option maxRecDepth 100000 in
set_option maxHeartbeats 2000000 in
theorem insert_end_calls (base : Nat) (Av : Option Addr) (cv : Nat) (l : List S55) (A3 : Option Addr) (c3 : Nat) (x : S55) (w : World) (hR : k55.R 55 w base (fun _ => True) (.slice Av l.length cv) l) (hb : base ≤ w.heap.size) (hc : l.length ≤ cv) (hC : Kd.C k55 w A3 1 [x]) (hl : l.length ≤ 1048576) :
    Calls Try.prog 85 #[.slice Av l.length cv, .int .i64 (l.length : Int), .slice A3 1 c3] w fun e w' => ∃ v, e = .returned v ∧ k55.R 55 w' base (fun _ => True) v (l ++ [x]) ∧ Below base w w' ∧ w.heap.size ≤ w'.heap.size := by
  have HR := Lib.hid hR
  have HC := Lib.hid hC
  clear hR hC
  go_enter Try.func85, Try.ntmps85
  go_wp2_with (at_builtin; refine Kd.R_append_rows k55 (Rr := k55.K w) (w0 := w) base (by rfl) (.tmp 23) (.tmp 24) 44 55 (.agg #[(.string ⟨#[]⟩), (.string ⟨#[]⟩), (.string ⟨#[]⟩)]) 48 rfl Try.underlying44 info55 rfl (by decide) (by omega) (.slice Av l.length cv) l [x] A3 1 c3 (fun _ => True) (fun _ => False) rfl rfl HR.out HC.out ?aM (fun _ hk => hk.elim) (fun _ _ => trivial) (Below.refl _ _) hb ?aL ?_)
  all_goals first
    | (intro y cs hk; obtain rfl := k55_open hk; exact k55_mkM _ _ _ y)
    | omega
    | (intro v1 w1 hr hb1 hg hat
       go_wp2
       go_ret
       exact ⟨_, rfl, hr, hb1, hg.size⟩)
set_option maxRecDepth 100000 in
set_option maxHeartbeats 4000000 in
/-- slices.Replace(s, n, n, x). -/
theorem replace_end_calls (base : Nat) (Av : Option Addr) (cv : Nat) (l : List S55) (A3 : Option Addr) (c3 : Nat) (x : S55) (w : World) (hR : k55.R 55 w base (fun _ => True) (.slice Av l.length cv) l) (hb : base ≤ w.heap.size) (hc : l.length ≤ cv) (hC : Kd.C k55 w A3 1 [x]) (hl : l.length ≤ 1048576) :
    Calls Try.prog 67 #[.slice Av l.length cv, .int .i64 (l.length : Int), .int .i64 (l.length : Int), .slice A3 1 c3] w fun e w' => ∃ v, e = .returned v ∧ k55.R 55 w' base (fun _ => True) v (l ++ [x]) ∧ Below base w w' ∧ w.heap.size ≤ w'.heap.size := by
  have HR := Lib.hid hR
  have HC := Lib.hid hC
  clear hR hC
  go_enter Try.func67, Try.ntmps67
  go_wp2_with fail
  · have hh : cv = l.length := by assumption
    have HR1 : k55.R 55 w base (fun _ => True) (.slice Av l.length l.length) l := by
      have := HR.out
      rw [hh] at this
      exact this
    refine (insert_end_calls base Av l.length l A3 c3 x w HR1 hb (Nat.le_refl _) HC.out hl).mono ?_
    rintro e w1 ⟨v, rfl, hr, hb1, hs⟩
    go_wp2
    go_ret
    exact ⟨_, rfl, hr, hb1, hs⟩
  · refine (insert_end_calls base Av cv l A3 c3 x w HR.out hb hc HC.out hl).mono ?_
    rintro e w1 ⟨v, rfl, hr, hb1, hs⟩
    go_wp2
    go_ret
    exact ⟨_, rfl, hr, hb1, hs⟩
set_option maxRecDepth 100000 in
set_option maxHeartbeats 4000000 in
/-- slices.Replace(s, n - 1, n, x). -/
theorem replace_last_calls (base : Nat) (Av : Option Addr) (cv : Nat) (l : List S55) (k : Nat) (hk : l.length = k + 1) (A3 : Option Addr) (c3 : Nat) (x : S55) (w : World) (hR : k55.R 55 w base (fun _ => True) (.slice Av l.length cv) l) (hb : base ≤ w.heap.size) (hc : l.length ≤ cv) (hC : Kd.C k55 w A3 1 [x]) (hl : l.length ≤ 1048576) :
    Calls Try.prog 67 #[.slice Av l.length cv, .int .i64 (k : Int), .int .i64 ((k : Int) + 1), .slice A3 1 c3] w fun e w' => ∃ v, e = .returned v ∧ k55.R 55 w' base (fun _ => True) v (l.take k ++ [x]) ∧ Below base w w' ∧ w.heap.size ≤ w'.heap.size := by
  have hR2 := Kd.R_take (m := k) hR (by omega)
  have hlt : (l.take k).length = k := by rw [List.length_take]; omega
  have HR := Lib.hid hR2
  have HC := Lib.hid hC
  have HL := Lib.hid hlt
  clear hR hC hR2 hlt
  rw [hk]
  rw [hk] at hc hl
  have hne : ¬ ((k : Int) = (k : Int) + 1) := by omega
  go_enter Try.func67, Try.ntmps67
  go_wp2_with (at_builtin; refine Kd.R_append_rows k55 (Rr := k55.K w) (w0 := w) base (by rfl) (.tmp 32) (.tmp 33) 44 55 (.agg #[(.string ⟨#[]⟩), (.string ⟨#[]⟩), (.string ⟨#[]⟩)]) 48 rfl Try.underlying44 info55 rfl (by decide) (by omega) (.slice Av k cv) (l.take k) [x] A3 1 c3 (fun _ => True) (fun _ => False) rfl rfl HR.out HC.out ?aM (fun _ hk => hk.elim) (fun _ _ => trivial) (Below.refl _ _) hb ?aL ?_)
  all_goals first
    | (intro y cs hk; obtain rfl := k55_open hk; exact k55_mkM _ _ _ y)
    | (rw [HL.out]; omega)
    | (intro v1 w1 hr hb1 hg hat
       obtain ⟨A1, c1, rfl, hc1, _⟩ := Kd.R_reads hr
       have hln : (l.take k ++ [x]).length = k + 1 := by rw [List.length_append, HL.out]; rfl
       rw [hln] at hr hc1 ⊢
       have HR2 := Lib.hid hr
       clear hr
       go_wp2
       go_ret
       exact ⟨_, rfl, HR2.out, hb1, hg.size⟩)
end Go.Proofs.Ytbpobnlkfpjijaa.Pr

/-! slices.Insert of files, anywhere. -/
namespace Go.Proofs.Ytbpobnlkfpjijaa.Pr
open Go.RowKit Go.Proofs.YtbpobnlkfpjijaaW.PrintWords Go.Proofs.YtbpobnlkfpjijaaW.PrintLast Go.Proofs.YtbpobnlkfpjijaaW.PrintMore
set_option linter.unusedVariables false
set_option linter.unusedSimpArgs false
attribute [local go_sem] max2_int min2_int max_two min_two max_three min_three max_four min_four Go.Proofs.Aid.cell_set_row
theorem wpList_copy_runJ {P : Program} {w : World} {ops : Array Oper} {rest : List Oper} {o : Oper} {a : Act} {Q : Exit → Act → World → Prop} (hgd : o.guard = none) (d s : Operand) (t t' : TypeId)
    (ho : o.op = .call { callee := .builtin .copy, args := #[d, s], argTypes := #[t, t'] }) (v u : Value) (hd : a.eval d = v) (hs : a.eval s = u) {v' : Value} {w' : World}
    (hr : (Builtin.copy_ #[t, t'] o.type #[v, u]).run P w = .ok v' w') (h : wpList P ops Q rest (a.put o.dst v') w') : wpList P ops Q (o :: rest) a w := by
  refine wpList_plain hgd fun K hK => ?_
  unfold Oper.wp execOp
  simp only [ho, resolve, invoke, builtin, Sem.run_bind, Sem.run_pure, Result.andThen_ok, List.map_toArray, List.map_cons, List.map_nil, hd, hs, hr]
  exact hK _ _ h
theorem insert_list (l : List S55) (i : Nat) (hi : i < l.length) (x : S55) (rest : List Value) (hr : 3 ≤ rest.length) :
    splice (splice (encs55 l ++ rest) (i * 3 + 3) (encs55 (l.drop i))) (i * 3) (enc55 x) = encs55 (l.take i ++ x :: l.drop i) ++ rest.drop 3 := by
  have e : encs55 l ++ rest = encs55 (l.take i) ++ (encs55 (l.drop i) ++ rest) := by
    rw [← List.append_assoc, ← encs_append, List.take_append_drop]
  have ht : (encs55 (l.take i)).length = i * 3 := by rw [encs_length, List.length_take]; omega
  rcases splice_insert (encs55 (l.take i)) (encs55 (l.drop i)) (enc55 x) rest with h | h
  · rw [e]
    rw [ht, enc_length] at h
    rw [h, encs_append, encs_cons]
    have : (encs55 (l.take i) ++ (encs55 (l.drop i) ++ rest)).drop (i * 3 + 3 + (encs55 (l.drop i)).length) = rest.drop 3 := by
      rw [← List.append_assoc, ← encs_append, List.take_append_drop, encs_length, List.length_drop, show i * 3 + 3 + (l.length - i) * 3 = (encs55 l).length + 3 by rw [encs_length]; omega, ← List.drop_drop, List.drop_left]
    rw [this]
    simp only [List.append_assoc]
  · rw [enc_length] at h; omega
set_option maxRecDepth 100000 in
set_option maxHeartbeats 4000000 in
/-- slices.Insert(s, i, x), i < n: there is room. -/
theorem insert_room_calls (base g cv : Nat) (l : List S55) (i : Nat) (hi : i < l.length) (ad : Addr) (c3 : Nat) (x : S55) (w : World) (hR : k55.R 55 w base (fun _ => True) (.slice (some ⟨g, 0, none⟩) l.length cv) l) (hb : base ≤ w.heap.size) (hroom : l.length + 1 ≤ cv) (hC : ∀ j v, (enc55 x)[j]? = some v → w.cell? (ad.add j) = some v) (had : ad.block < base) (hl : l.length ≤ 1048576) :
    Calls Try.prog 85 #[.slice (some ⟨g, 0, none⟩) l.length cv, .int .i64 (i : Int), .slice (some ad) 1 c3] w fun e w' => ∃ v, e = .returned v ∧ k55.R 55 w' base (fun _ => True) v (l.take i ++ x :: l.drop i) ∧ Below base w w' ∧ w.heap.size ≤ w'.heap.size := by
  obtain ⟨_, hbg, hgs, _, hcm, rest, hh, hcl⟩ := R_open55 hR
  have hc63 : cv ≤ 9223372036854775807 := by unfold maxLen at hcm; omega
  have hrl : 3 ≤ rest.length := by rw [List.length_append, encs_length] at hcl; omega
  have hel : (encs55 l).length = l.length * 3 := encs_length l
  have hov : ∀ lb cb, (callFunc 86 #[.slice (some ad) 1 c3, .slice (some ⟨g, (i + 1) * 3, none⟩) lb cb]).run Try.prog w = .ok (.value (.bool false)) w := fun lb cb => by
    rw [run_callFunc_extern Try.func86 (by kernel_rfl) (by kernel_rfl) (by kernel_rfl) (e := Extern.SlicesOverlaps.overlaps #[44, 44] #[4]) (by kernel_rfl),
      Go.Proofs.Aid.run_overlaps_own w 44 4 55 Try.underlying44 3 (fun w => by kernel_rfl) ad ⟨g, (i + 1) * 3, none⟩ 1 c3 lb cb (by show ad.block ≠ g; omega) (.string x.f0) (by have h0 := hC 0 _ rfl; rwa [show ad.add 0 = ad by simp [Addr.add]] at h0) _ 55 hh (by rw [List.size_toArray]; omega)]
    rfl
  have hw1 : IntKind.i64.wrap ((i : Int) + 1) = (i : Int) + 1 := by rw [IntKind.wrap_i64]; omega
  have hw2 : IntKind.i64.wrap ((l.length : Int) + 1) = (l.length : Int) + 1 := by rw [IntKind.wrap_i64]; omega
  have htn : ((i : Int) + 1).toNat = i + 1 := by omega
  have htn2 : ((l.length : Int) + 1).toNat = l.length + 1 := by omega
  have hne : ¬ ((i : Int) = (l.length : Int)) := by omega
  have hb1 : (0 : Int) ≤ (i : Int) + 1 := by omega
  have hb2 : ¬ cv = i := by omega
  have hb3 : ¬ cv = i + 1 := by omega
  have hb4 : (i : Int) ≤ (l.length : Int) := by omega
  have hb5 : (i : Int) + 1 ≤ (l.length : Int) + 1 := by omega
  have hb7 : (i : Int) ≤ (l.length : Int) + 1 := by omega
  have hb6 : ¬ ((cv : Int) < (l.length : Int) + 1) := by omega
  have hdl : (encs55 (l.drop i)).length = (l.length - i) * 3 := by rw [encs_length, List.length_drop]
  have hpart : encs55 l ++ rest = encs55 (l.take i) ++ (encs55 (l.drop i) ++ rest) := by rw [← List.append_assoc, ← encs_append, List.take_append_drop]
  have htl : (encs55 (l.take i)).length = i * 3 := by rw [encs_length, List.length_take]; omega
  have hhd : w.drew.heap[g]? = some (.cells (encs55 l ++ rest).toArray 55 (0, 0)) := hh
  obtain ⟨W1, hcp1, hh1, hs1, ho1, hB1⟩ := copy_row (W := w.drew) g ((i + 1) * 3) (encs55 l ++ rest) hhd (encs55 (l.drop i)) (some ⟨g, (i + 1) * 3, none⟩) (some ⟨g, i * 3, none⟩) (l.length - i) (cv - (i + 1)) (l.length + 1 - i) (cv - i)
    (by rw [hdl]; congr 1; omega) (fun _ => ⟨rfl, _, rfl, cells_part g (i * 3) (encs55 (l.take i)) _ rest (by rw [← hpart]; exact hhd) htl.symm⟩) (by rw [hdl]; omega) (encs_one _)
  rw [show (i + 1) * 3 = i * 3 + 3 by omega] at hh1
  have hl1 : (splice (encs55 l ++ rest) (i * 3 + 3) (encs55 (l.drop i))).length = cv * 3 := by rw [length_splice _ _ _ (by rw [hdl]; omega)]; exact hcl
  have hw0 : ∀ k, k < w.heap.size → k ≠ g → W1.heap[k]? = w.heap[k]? := fun k _ hk => ho1 k hk
  obtain ⟨W2, hcp2, hh2, hs2, ho2, hB2⟩ := copy_row (W := W1) g (i * 3) _ hh1 (enc55 x) (some ⟨g, i * 3, none⟩) (some ad) (l.length + 1 - i) (cv - i) 1 c3
    (by rw [enc_length]; have : min 1 (l.length + 1 - i) = 1 := by omega
        rw [this]) (fun _ => ⟨rfl, ad, rfl, fun j v hj => by
      have h0 := hC j v hj
      have hbl : (ad.add j).block = ad.block := by unfold Addr.add; split <;> rfl
      rw [World.cell?_of_block (w := w) (by rw [hbl]; exact ho1 _ (by omega))]
      exact h0⟩) (by rw [hl1, enc_length]; omega) (enc_one x)
  rw [insert_list l i hi x rest hrl] at hh2
  have hfin : k55.R 55 W2 base (fun _ => True) (.slice (some ⟨g, 0, none⟩) (l.length + 1) cv) (l.take i ++ x :: l.drop i) := by
    have hlen : (l.take i ++ x :: l.drop i).length = l.length + 1 := by rw [List.length_append, List.length_cons, List.length_take, List.length_drop]; omega
    have := R_close55 (base := base) (cv := cv) hbg _ hh2 (by rw [List.length_append, encs_length, hlen, List.length_drop]; rw [List.length_append, hel] at hcl; omega) (by omega) hcm
    rwa [hlen] at this
  have hBel : Below base w W2 := hB2 _ _ (hB1 _ _ (Below.refl _ _).drew hbg) hbg
  have hsz : w.heap.size ≤ W2.heap.size := by rw [hs2, hs1]; exact Nat.le_refl _
  have HF := Lib.hid hfin
  have HBe := Lib.hid hBel
  clear hR hh hC hcl hel hfin hBel hh2 hB2 hB1 ho2 ho1 hh1 hl1 hhd hpart htl hdl hw0 hs1 hs2
  go_enter Try.func85, Try.ntmps85
  go_wp2_with (simp only [hov])
  go_region_law (refine step_copy_runK rfl (.tmp 73) (.tmp 76) 44 44 rfl (.slice (some ⟨g, (i + 1) * 3, none⟩) (l.length - i) (cv - (i + 1))) (.slice (some ⟨g, i * 3, none⟩) (l.length + 1 - i) (cv - i)) (by simp [Act.eval, Act.put]) (by simp [Act.eval, Act.put]) (hcp1 _) ?_)
  go_wp2_with (with_reducible refine wpList_copy_runJ rfl (.tmp 80) (.tmp 81) 44 44 rfl _ _ rfl rfl (hcp2 _) ?_)
  go_ret
  exact ⟨_, rfl, HF.out, HBe.out, hsz⟩
theorem splice_two (T X D Z : List Value) (h : X.length + D.length ≤ Z.length) :
    splice (splice (T ++ Z) T.length X) (T.length + X.length) D = T ++ (X ++ (D ++ Z.drop (X.length + D.length))) := by
  have h1 : splice (T ++ Z) T.length X = T ++ (X ++ Z.drop X.length) := by
    unfold splice
    rw [List.take_left, ← List.drop_drop, List.drop_left]
  have e : T ++ (X ++ Z.drop X.length) = (T ++ X) ++ Z.drop X.length := (List.append_assoc _ _ _).symm
  rw [h1, e]
  unfold splice
  rw [show T.length + X.length = (T ++ X).length by rw [List.length_append], List.take_left, ← List.drop_drop, List.drop_left, List.drop_drop]
  simp only [List.append_assoc]
theorem zero_length (z : Value) (hz : z.cells.size = 3) (k : Nat) : (Builtin.zeroCells z.cells k).toList.length = k * 3 := by
  simp [Builtin.zeroCells, hz]
set_option maxRecDepth 100000 in
set_option maxHeartbeats 4000000 in
/-- slices.Insert(s, i, x), i < n: there is no room. -/
theorem insert_grow_calls (base g cv : Nat) (l : List S55) (i : Nat) (hi : i < l.length) (ad : Addr) (c3 : Nat) (x : S55) (w : World) (hR : k55.R 55 w base (fun _ => True) (.slice (some ⟨g, 0, none⟩) l.length cv) l) (hb : base ≤ w.heap.size) (hroom : cv < l.length + 1) (hC : ∀ j v, (enc55 x)[j]? = some v → w.cell? (ad.add j) = some v) (had : ad.block < w.heap.size) (hl : l.length ≤ 1048576) :
    Calls Try.prog 85 #[.slice (some ⟨g, 0, none⟩) l.length cv, .int .i64 (i : Int), .slice (some ad) 1 c3] w fun e w' => ∃ v, e = .returned v ∧ k55.R 55 w' base (fun _ => True) v (l.take i ++ x :: l.drop i) ∧ Below base w w' ∧ w.heap.size ≤ w'.heap.size := by
  obtain ⟨_, hbg, hgs, hncv, hcm, rest, hh, hcl⟩ := R_open55 hR
  have hc63 : cv ≤ 9223372036854775807 := by unfold maxLen at hcm; omega
  have hel : (encs55 l).length = l.length * 3 := encs_length l
  have hw1 : IntKind.i64.wrap ((i : Int) + 1) = (i : Int) + 1 := by rw [IntKind.wrap_i64]; omega
  have hw2 : IntKind.i64.wrap ((l.length : Int) + 1) = (l.length : Int) + 1 := by rw [IntKind.wrap_i64]; omega
  have hw3 : IntKind.i64.wrap ((l.length : Int) + 1 - (i : Int)) = (l.length : Int) + 1 - (i : Int) := by rw [IntKind.wrap_i64]; omega
  have htn : ((i : Int) + 1).toNat = i + 1 := by omega
  have hne : ¬ ((i : Int) = (l.length : Int)) := by omega
  have hb1 : (0 : Int) ≤ (i : Int) + 1 := by omega
  have hb2 : ¬ cv = i := by omega
  have hb4 : (i : Int) ≤ (l.length : Int) := by omega
  have hb5 : (i : Int) + 1 ≤ (l.length : Int) + 1 := by omega
  have hb7 : (i : Int) ≤ (l.length : Int) + 1 := by omega
  have hb6 : (cv : Int) < (l.length : Int) + 1 := by omega
  have hb8 : (i : Int) ≤ (cv : Int) := by omega
  have hdl : (encs55 (l.drop i)).length = (l.length - i) * 3 := by rw [encs_length, List.length_drop]
  have hpart : encs55 l ++ rest = encs55 (l.take i) ++ (encs55 (l.drop i) ++ rest) := by rw [← List.append_assoc, ← encs_append, List.take_append_drop]
  have htl : (encs55 (l.take i)).length = i * 3 := by rw [encs_length, List.length_take]; omega
  obtain ⟨i0, hi0, hz0, hzs, hzb⟩ := info_parts info55
  obtain ⟨z, hz⟩ : ∃ z : Value, z = (.agg #[(.string ⟨#[]⟩), (.string ⟨#[]⟩), (.string ⟨#[]⟩)]) := ⟨_, rfl⟩
  rw [← hz] at hz0
  have hzc : z.cells.size = 3 := by subst hz; rfl
  obtain ⟨G, hG⟩ : ∃ G, G = grownCap w (l.length + 1) cv 55 := ⟨_, rfl⟩
  have hGn : l.length + 1 ≤ G := by rw [hG]; exact grownCap_ge w _ _ _
  have hGm : G ≤ maxLen := by rw [hG]; exact grownCap_le_maxLen w _ cv 55 (by unfold maxLen; omega)
  have hG63 : G ≤ 9223372036854775807 := by unfold maxLen at hGm; omega
  obtain ⟨Z, hZ⟩ : ∃ Z : List Value, Z = (Builtin.zeroCells z.cells (l.length + 1 - i)).toList ++ (Builtin.zeroCells z.cells (G - (l.length + 1))).toList := ⟨_, rfl⟩
  have hZl : Z.length = (G - i) * 3 := by rw [hZ, List.length_append, zero_length z hzc, zero_length z hzc]; omega
  obtain ⟨W1, hW1⟩ : ∃ W1, W1 = w.drew.alloc (.cells (encs55 (l.take i) ++ Z).toArray 55) := ⟨_, rfl⟩
  have hold : (Builtin.firstCells i0.size i (.slice (some ⟨g, 0, none⟩) i cv)).run Try.prog w.drew = .ok (encs55 (l.take i)).toArray w.drew := by
    have := run_firstCells_some (P := Try.prog) w.drew i0.size i ⟨g, 0, none⟩ i cv (encs55 (l.take i)) (by rw [hzs, htl]) (cells_part g 0 [] (encs55 (l.take i)) (encs55 (l.drop i) ++ rest) (by rw [List.nil_append, ← hpart]; exact hh) rfl)
    exact this
  have hrz : ∀ ty, (Builtin.append_ #[44, 3] ty #[.slice (some ⟨g, 0, none⟩) i cv, .int .i64 ((l.length : Int) + 1 - (i : Int))]).run Try.prog w = .ok (.slice (some ⟨w.heap.size, 0, none⟩) (l.length + 1) G) W1 := fun ty => by
    have h := Lib.run_append_grow_zeros w 44 3 ty 55 i0 _ .i64 .i64 Try.underlying44 Try.underlying3 hi0 hz0 (some ⟨g, 0, none⟩) i cv (encs55 (l.take i)) hold (l.length + 1 - i) (by omega) (by omega) (by omega) (by omega) (by rw [hzb]; omega) (by rw [hzb]; exact growslice_fits (by omega) (by omega))
    rw [show i + (l.length + 1 - i) = l.length + 1 by omega, ← hG] at h
    rw [show (l.length : Int) + 1 - (i : Int) = ((l.length + 1 - i : Nat) : Int) by omega, h, hW1, hZ]
    have hA : ∀ (a : List Value) (b c : Array Value), a.toArray ++ b ++ c = (a ++ (b.toList ++ c.toList)).toArray := fun a b c => by apply Array.ext'; simp
    rw [hA]
  have hh1 : W1.heap[w.heap.size]? = some (.cells (encs55 (l.take i) ++ Z).toArray 55 (0, 0)) := by rw [hW1]; exact heap_alloc_new w.drew _
  have hbW1 : Below w.heap.size w W1 := by rw [hW1]; exact below_alloc (Below.refl _ _).drew _
  have hsW1 : W1.heap.size = w.heap.size + 1 := by rw [hW1]; simp
  have hl0 : (encs55 (l.take i) ++ Z).length = G * 3 := by rw [List.length_append, htl, hZl]; omega
  obtain ⟨W2, hcp1, hh2, hs2, ho2, hB2⟩ := copy_row (W := W1) w.heap.size (i * 3) _ hh1 (enc55 x) (some ⟨w.heap.size, i * 3, none⟩) (some ad) (l.length + 1 - i) (G - i) 1 c3
    (by rw [enc_length]; have : min 1 (l.length + 1 - i) = 1 := by omega
        rw [this]) (fun _ => ⟨rfl, ad, rfl, fun j v hj => by
      have h0 := hC j v hj
      have hbl : (ad.add j).block = ad.block := by unfold Addr.add; split <;> rfl
      rw [World.cell?_of_block (w := w) (by rw [hbl]; exact hbW1.block _ had)]
      exact h0⟩) (by rw [hl0, enc_length]; omega) (enc_one x)
  have hg2 : W2.drew.heap[g]? = some (.cells (encs55 (l.take i) ++ (encs55 (l.drop i) ++ rest)).toArray 55 (0, 0)) := by
    rw [← hpart]
    exact ((ho2 g (by omega)).trans (hbW1.block g hgs)).trans hh
  have hl2 : (splice (encs55 (l.take i) ++ Z) (i * 3) (enc55 x)).length = G * 3 := by rw [length_splice _ _ _ (by rw [hl0, enc_length]; omega)]; exact hl0
  obtain ⟨W3, hcp2, hh3, hs3, ho3, hB3⟩ := copy_row (W := W2.drew) w.heap.size ((i + 1) * 3) _ hh2 (encs55 (l.drop i)) (some ⟨w.heap.size, (i + 1) * 3, none⟩) (some ⟨g, i * 3, none⟩) (l.length + 1 - (i + 1)) (G - (i + 1)) (l.length - i) (cv - i)
    (by rw [hdl]; congr 1; omega) (fun _ => ⟨rfl, _, rfl, cells_part g (i * 3) (encs55 (l.take i)) _ rest hg2 htl.symm⟩) (by rw [hl2, hdl]; omega) (encs_one _)
  have hlst : splice (splice (encs55 (l.take i) ++ Z) (i * 3) (enc55 x)) ((i + 1) * 3) (encs55 (l.drop i)) = encs55 (l.take i ++ x :: l.drop i) ++ Z.drop (3 + (l.length - i) * 3) := by
    have := splice_two (encs55 (l.take i)) (enc55 x) (encs55 (l.drop i)) Z (by rw [enc_length, hdl, hZl]; omega)
    rw [htl, enc_length, hdl] at this
    rw [show (i + 1) * 3 = i * 3 + 3 by omega, this, encs_append, encs_cons]
    simp only [List.append_assoc]
  rw [hlst] at hh3
  have hfin : k55.R 55 W3 base (fun _ => True) (.slice (some ⟨w.heap.size, 0, none⟩) (l.length + 1) G) (l.take i ++ x :: l.drop i) := by
    have hlen : (l.take i ++ x :: l.drop i).length = l.length + 1 := by rw [List.length_append, List.length_cons, List.length_take, List.length_drop]; omega
    have := R_close55 (base := base) (cv := G) hb _ hh3 (by rw [List.length_append, encs_length, hlen, List.length_drop, hZl]; omega) (by omega) hGm
    rwa [hlen] at this
  have hBel : Below base w W3 := hB3 _ _ (hB2 _ _ (hbW1.mono hb) hb).drew hb
  have hsz : w.heap.size ≤ W3.heap.size := by
    have h3 : W3.heap.size = W2.heap.size := hs3
    omega
  have hb9 : ¬ G = i := by omega
  have hb10 : ¬ G = i + 1 := by omega
  have HF := Lib.hid hfin
  have HBe := Lib.hid hBel
  clear hR hh hC hcl hel hfin hBel hh3 hB3 hB2 ho3 ho2 hh2 hh1 hl2 hl0 hpart htl hdl hg2 hs2 hs3 hlst hZ hZl hG hW1 hold hbW1 hsW1 hz hz0 hzc hi0 hzs hzb
  go_enter Try.func85, Try.ntmps85
  go_wp2_with (first
    | (at_builtin; refine Lib.wpList_append_run _ rfl _ _ _ _ rfl _ _ rfl rfl _ _ (hrz _) ?_)
    | (with_reducible refine wpList_copy_runJ rfl (.tmp 43) (.tmp 44) 44 44 rfl _ _ rfl rfl (hcp1 _) ?_))
  go_region_law (refine step_copy_runK rfl (.tmp 50) (.tmp 53) 44 44 rfl (.slice (some ⟨w.heap.size, (i + 1) * 3, none⟩) (l.length + 1 - (i + 1)) (G - (i + 1))) (.slice (some ⟨g, i * 3, none⟩) (l.length - i) (cv - i)) (by simp [Act.eval, Act.put]) (by simp [Act.eval, Act.put]) (hcp2 _) ?_)
  go_wp2
  go_ret
  exact ⟨_, rfl, HF.out, HBe.out, hsz⟩
end Go.Proofs.Ytbpobnlkfpjijaa.Pr

/-! slices.Replace of files: one by one, one by none; disk.with. -/
namespace Go.Proofs.Ytbpobnlkfpjijaa.Pr
open Go.RowKit Go.Proofs.YtbpobnlkfpjijaaW.PrintWords Go.Proofs.YtbpobnlkfpjijaaW.PrintLast Go.Proofs.YtbpobnlkfpjijaaW.PrintMore
set_option linter.unusedVariables false
set_option linter.unusedSimpArgs false
attribute [local go_sem] max2_int min2_int max_two min_two max_three min_three max_four min_four Go.Proofs.Aid.cell_set_row
theorem run_append_zero (w : World) (g i cv : Nat) (A3 : Option Addr) (c3 : Nat) (hle : i ≤ cv) : ∀ ty, (Builtin.append_ #[44, 44] ty #[.slice (some ⟨g, 0, none⟩) i cv, .slice A3 0 c3]).run Try.prog w = .ok (.slice (some ⟨g, 0, none⟩) i cv) w := by
  intro ty
  obtain ⟨i0, hi0, hz0, hzs, hzb⟩ := info_parts info55
  have hl : ∀ (x : Addr), (loadCells x 0).run Try.prog w = .ok #[] w := fun x => by simpa using run_loadCells_list (P := Try.prog) w x [] (by simp)
  cases A3 <;> simp [Builtin.append_, run_underlying Try.underlying44, sizeOf, typeInfo, hi0, Builtin.lenOf, Builtin.firstCells, storeCells, hle, hl, hzs, Result.andThen]
theorem run_clear55 (W : World) (g o n c : Nat) (hn : 0 < n) (cur : List Value) (hg : W.heap[g]? = some (.cells cur.toArray 55 (0, 0))) (hfit : o + n * 3 ≤ cur.length) :
    ∃ (zs : List Value) (W' : World), zs.length = n * 3 ∧ (∀ ty, (Builtin.clear_ #[44] ty #[.slice (some ⟨g, o, none⟩) n c]).run Try.prog W = .ok (.tuple #[]) W') ∧ W'.heap[g]? = some (.cells (splice cur o zs).toArray 55 (0, 0)) ∧ W'.heap.size = W.heap.size ∧ (∀ k, k ≠ g → W'.heap[k]? = W.heap[k]?) ∧ (∀ B w0, Below B w0 W → B ≤ g → Below B w0 W') := by
  have hzl : (Builtin.zeroCells (Value.agg #[(.string ⟨#[]⟩), (.string ⟨#[]⟩), (.string ⟨#[]⟩)]).cells n).toList.length = n * 3 := zero_length _ rfl n
  obtain ⟨W', h⟩ := Go.Proofs.Aid.run_clear_splice (P := Try.prog) W 44 55 (.agg #[(.string ⟨#[]⟩), (.string ⟨#[]⟩), (.string ⟨#[]⟩)]) Try.underlying44 (fun w => by kernel_rfl) g o n c _ rfl hn cur 55 hg (by rw [hzl]; exact hfit) (by
    intro v hv
    have hm : v ∈ Builtin.zeroCells (Value.agg #[(.string ⟨#[]⟩), (.string ⟨#[]⟩), (.string ⟨#[]⟩)]).cells n := by simpa using hv
    unfold Builtin.zeroCells at hm
    obtain ⟨j, hj, rfl⟩ := Array.mem_map.1 hm
    have h3 : j % 3 = 0 ∨ j % 3 = 1 ∨ j % 3 = 2 := by omega
    show ((#[(.string ⟨#[]⟩), (.string ⟨#[]⟩), (.string ⟨#[]⟩)] : Array Value)[j % 3]!).oneCell' = true
    rcases h3 with h3 | h3 | h3 <;> rw [h3] <;> rfl)
  exact ⟨_, W', hzl, h⟩
theorem splice_over (T Y D : List Value) : splice (T ++ Y) T.length D = T ++ (D ++ Y.drop D.length) := by
  unfold splice
  rw [List.take_left, ← List.drop_drop, List.drop_left]
theorem parts_of (l : List S55) (i : Nat) (hi : i < l.length) (rest : List Value) : encs55 l ++ rest = encs55 (l.take i) ++ (enc55 l[i] ++ (encs55 (l.drop (i + 1)) ++ rest)) := by
  have : l = l.take i ++ l[i] :: l.drop (i + 1) := by rw [← List.drop_eq_getElem_cons hi, List.take_append_drop]
  conv => lhs; rw [this, encs_append, encs_cons]
  simp only [List.append_assoc]
set_option maxRecDepth 100000 in
set_option maxHeartbeats 4000000 in
/-- slices.Replace(s, i, i + 1, x), ahead of the last one. -/
theorem replace_mid_calls (base g cv : Nat) (l : List S55) (i : Nat) (hi : i + 1 < l.length) (ad : Addr) (c3 : Nat) (x : S55) (w : World) (hR : k55.R 55 w base (fun _ => True) (.slice (some ⟨g, 0, none⟩) l.length cv) l) (hb : base ≤ w.heap.size) (hC : ∀ j v, (enc55 x)[j]? = some v → w.cell? (ad.add j) = some v) (had : ad.block < base) (hl : l.length ≤ 1048576) :
    Calls Try.prog 67 #[.slice (some ⟨g, 0, none⟩) l.length cv, .int .i64 (i : Int), .int .i64 ((i : Int) + 1), .slice (some ad) 1 c3] w fun e w' => ∃ v, e = .returned v ∧ k55.R 55 w' base (fun _ => True) v (l.take i ++ x :: l.drop (i + 1)) ∧ Below base w w' ∧ w.heap.size ≤ w'.heap.size := by
  obtain ⟨_, hbg, hgs, hncv, hcm, rest, hh, hcl⟩ := R_open55 hR
  have hc63 : cv ≤ 9223372036854775807 := by unfold maxLen at hcm; omega
  have hel : (encs55 l).length = l.length * 3 := encs_length l
  have H : ∀ N : Nat, ∃ W1 W2, (∀ ty, (Builtin.copy_ #[44, 44] ty #[.slice (some ⟨g, i * 3, none⟩) (l.length - i) (cv - i), .slice (some ad) 1 c3]).run Try.prog (w.drewN N) = .ok (goInt (min 1 (l.length - i) : Nat)) W1) ∧
      (∀ ty, (Builtin.copy_ #[44, 44] ty #[.slice (some ⟨g, (i + 1) * 3, none⟩) (l.length - (i + 1)) (cv - (i + 1)), .slice (some ⟨g, (i + 1) * 3, none⟩) (l.length - (i + 1)) (cv - (i + 1))]).run Try.prog W1.drew = .ok (goInt (min (l.length - (i + 1)) (l.length - (i + 1)) : Nat)) W2) ∧
      k55.R 55 W2 base (fun _ => True) (.slice (some ⟨g, 0, none⟩) l.length cv) (l.take i ++ x :: l.drop (i + 1)) ∧ Below base w W2 ∧ w.heap.size ≤ W2.heap.size := by
    intro N
    have hdl : (encs55 (l.drop (i + 1))).length = (l.length - (i + 1)) * 3 := by rw [encs_length, List.length_drop]
    have htl : (encs55 (l.take i)).length = i * 3 := by rw [encs_length, List.length_take]; omega
    have hpart := parts_of l i (by omega) rest
    have hhd : (w.drewN N).heap[g]? = some (.cells (encs55 l ++ rest).toArray 55 (0, 0)) := hh
    obtain ⟨W1, hcp1, hh1, hs1, ho1, hB1⟩ := copy_row (W := w.drewN N) g (i * 3) _ hhd (enc55 x) (some ⟨g, i * 3, none⟩) (some ad) (l.length - i) (cv - i) 1 c3
      (by rw [enc_length]; have : min 1 (l.length - i) = 1 := by omega
          rw [this]) (fun _ => ⟨rfl, ad, rfl, fun j v hj => hC j v hj⟩) (by rw [hcl, enc_length]; omega) (enc_one x)
    have hl1 : splice (encs55 l ++ rest) (i * 3) (enc55 x) = encs55 (l.take i ++ [x]) ++ (encs55 (l.drop (i + 1)) ++ rest) := by
      have := splice_over (encs55 (l.take i)) (enc55 l[i] ++ (encs55 (l.drop (i + 1)) ++ rest)) (enc55 x)
      have hd3 : (enc55 l[i] ++ (encs55 (l.drop (i + 1)) ++ rest)).drop 3 = encs55 (l.drop (i + 1)) ++ rest := by
        show List.drop (enc55 l[i]).length _ = _
        exact List.drop_left
      rw [htl, ← hpart, enc_length, hd3] at this
      rw [this, encs_append]
      simp [encs55]
    have htl1 : (encs55 (l.take i ++ [x])).length = (i + 1) * 3 := by rw [encs_length, List.length_append, List.length_take]; simp; omega
    have hlen1 : (encs55 (l.take i ++ [x]) ++ (encs55 (l.drop (i + 1)) ++ rest)).length = cv * 3 := by
      rw [List.length_append, List.length_append, htl1, hdl]
      rw [List.length_append, hel] at hcl
      omega
    rw [hl1] at hh1
    have hhd1 : W1.drew.heap[g]? = some (.cells (encs55 (l.take i ++ [x]) ++ (encs55 (l.drop (i + 1)) ++ rest)).toArray 55 (0, 0)) := hh1
    obtain ⟨W2, hcp2, hh2, hs2, ho2, hB2⟩ := copy_row (W := W1.drew) g ((i + 1) * 3) _ hhd1 (encs55 (l.drop (i + 1))) (some ⟨g, (i + 1) * 3, none⟩) (some ⟨g, (i + 1) * 3, none⟩) (l.length - (i + 1)) (cv - (i + 1)) (l.length - (i + 1)) (cv - (i + 1))
      (by rw [hdl]; congr 1; omega) (fun _ => ⟨rfl, _, rfl, cells_part g _ _ _ rest hhd1 htl1.symm⟩) (by rw [hlen1, hdl]; omega) (encs_one _)
    have hl2 : splice (encs55 (l.take i ++ [x]) ++ (encs55 (l.drop (i + 1)) ++ rest)) ((i + 1) * 3) (encs55 (l.drop (i + 1))) = encs55 (l.take i ++ x :: l.drop (i + 1)) ++ rest := by
      have := splice_over (encs55 (l.take i ++ [x])) (encs55 (l.drop (i + 1)) ++ rest) (encs55 (l.drop (i + 1)))
      rw [htl1, List.drop_left] at this
      rw [this, show l.take i ++ x :: l.drop (i + 1) = (l.take i ++ [x]) ++ l.drop (i + 1) by simp, encs_append (l.take i ++ [x])]
      simp only [List.append_assoc]
    rw [hl2] at hh2
    have hlen : (l.take i ++ x :: l.drop (i + 1)).length = l.length := by rw [List.length_append, List.length_cons, List.length_take, List.length_drop]; omega
    refine ⟨W1, W2, hcp1, hcp2, ?_, hB2 _ _ (hB1 _ _ (pw_below_drewN (Below.refl _ _) N) hbg).drew hbg, ?_⟩
    · have := R_close55 (base := base) (cv := cv) hbg _ hh2 (by rw [List.length_append, encs_length, hlen]; rw [List.length_append, hel] at hcl; omega) (by omega) hcm
      rwa [hlen] at this
    · have h1 : W2.heap.size = W1.heap.size := hs2
      have h2 : W1.heap.size = w.heap.size := hs1
      omega
  have hcl0 : ∀ (A : Option Addr) (c : Nat) (ty : TypeId) (W : World), (Builtin.clear_ #[44] ty #[.slice A 0 c]).run Try.prog W = .ok (.tuple #[]) W := fun A c ty W => Go.Proofs.Aid.run_clear_none W 44 55 ty A c Try.underlying44
  have hw1 : IntKind.i64.wrap ((i : Int) + 1) = (i : Int) + 1 := by rw [IntKind.wrap_i64]; omega
  have hw2 : IntKind.i64.wrap ((l.length : Int) + 1) = (l.length : Int) + 1 := by rw [IntKind.wrap_i64]; omega
  have htn : ((i : Int) + 1).toNat = i + 1 := by omega
  have hne : ¬ ((i : Int) + 1 = (l.length : Int)) := by omega
  have hne2 : ¬ ((i : Int) = (i : Int) + 1) := by omega
  have hb1 : (0 : Int) ≤ (i : Int) + 1 := by omega
  have hb4 : (i : Int) ≤ (l.length : Int) := by omega
  have hb5 : (i : Int) + 1 ≤ (l.length : Int) := by omega
  have hb6 : (i : Int) ≤ (i : Int) + 1 := by omega
  have hb2 : ¬ cv = i := by omega
  have hb3 : ¬ cv = i + 1 := by omega
  have htot : (i : Int) + 1 + ((l.length - (i + 1) : Nat) : Int) = (l.length : Int) := by omega
  have hwt : IntKind.i64.wrap ((i : Int) + 1 + ((l.length - (i + 1) : Nat) : Int)) = (l.length : Int) := by rw [htot, IntKind.wrap_i64]; omega
  have hwt2 : IntKind.i64.wrap (l.length : Int) = (l.length : Int) := by rw [IntKind.wrap_i64]; omega
  have HH := Lib.hid H
  clear hR hh hC hcl hel H
  go_enter Try.func67, Try.ntmps67
  go_wp2_with fail
  go_quiet (fail)
  rename_i nq
  obtain ⟨W1, W2, hcp1, hcp2, hfin, hBel, hsz⟩ := HH.out nq
  have HF := Lib.hid hfin
  have HBe := Lib.hid hBel
  clear hfin hBel
  go_wp2_with (with_reducible refine wpList_copy_runJ rfl (.tmp 95) (.tmp 96) 44 44 rfl _ _ rfl rfl (hcp1 _) ?_)
  go_region_law (refine step_copy_runK rfl (.tmp 103) (.tmp 106) 44 44 rfl (.slice (some ⟨g, (i + 1) * 3, none⟩) (l.length - (i + 1)) (cv - (i + 1))) (.slice (some ⟨g, (i + 1) * 3, none⟩) (l.length - (i + 1)) (cv - (i + 1))) (by simp [Act.eval, Act.put]) (by simp [Act.eval, Act.put]) (hcp2 _) ?_)
  go_wp2
  all_goals (go_ret; first | exact ⟨_, rfl, HF.out, HBe.out, hsz⟩ | exact ⟨_, rfl, by have h1 := HF.out; rw [show cv = l.length by assumption] at h1; exact h1, HBe.out, hsz⟩)
set_option maxRecDepth 100000 in
set_option maxHeartbeats 4000000 in
/-- slices.Replace(s, i, i + 1), ahead of the last one: it is left out. -/
theorem replace_out_calls (base g cv : Nat) (l : List S55) (i : Nat) (hi : i + 1 < l.length) (A3 : Option Addr) (c3 : Nat) (w : World) (hR : k55.R 55 w base (fun _ => True) (.slice (some ⟨g, 0, none⟩) l.length cv) l) (hb : base ≤ w.heap.size) (hl : l.length ≤ 1048576) :
    Calls Try.prog 67 #[.slice (some ⟨g, 0, none⟩) l.length cv, .int .i64 (i : Int), .int .i64 ((i : Int) + 1), .slice A3 0 c3] w fun e w' => ∃ v, e = .returned v ∧ k55.R 55 w' base (fun _ => True) v (l.take i ++ l.drop (i + 1)) ∧ Below base w w' ∧ w.heap.size ≤ w'.heap.size := by
  obtain ⟨_, hbg, hgs, hncv, hcm, rest, hh, hcl⟩ := R_open55 hR
  have hc63 : cv ≤ 9223372036854775807 := by unfold maxLen at hcm; omega
  have hel : (encs55 l).length = l.length * 3 := encs_length l
  have H : ∀ N : Nat, ∃ W1 W2, (∀ (d : Option Addr) (dl dc : Nat) (ty : TypeId), (Builtin.copy_ #[44, 44] ty #[.slice d dl dc, .slice A3 0 c3]).run Try.prog (w.drewN N) = .ok (goInt 0) (w.drewN N)) ∧
      (∀ ty, (Builtin.copy_ #[44, 44] ty #[.slice (some ⟨g, i * 3, none⟩) (l.length - 1 - i) (cv - i), .slice (some ⟨g, (i + 1) * 3, none⟩) (l.length - (i + 1)) (cv - (i + 1))]).run Try.prog (w.drewN N).drew = .ok (goInt (min (l.length - (i + 1)) (l.length - 1 - i) : Nat)) W1) ∧
      (∀ ty, (Builtin.clear_ #[44] ty #[.slice (some ⟨g, (l.length - 1) * 3, none⟩) (l.length - (l.length - 1)) (cv - (l.length - 1))]).run Try.prog W1 = .ok (.tuple #[]) W2) ∧
      k55.R 55 W2 base (fun _ => True) (.slice (some ⟨g, 0, none⟩) (l.length - 1) cv) (l.take i ++ l.drop (i + 1)) ∧ Below base w W2 ∧ w.heap.size ≤ W2.heap.size := by
    intro N
    have hdl : (encs55 (l.drop (i + 1))).length = (l.length - (i + 1)) * 3 := by rw [encs_length, List.length_drop]
    have htl : (encs55 (l.take i)).length = i * 3 := by rw [encs_length, List.length_take]; omega
    have hpart := parts_of l i (by omega) rest
    have hhd : (w.drewN N).drew.heap[g]? = some (.cells (encs55 l ++ rest).toArray 55 (0, 0)) := hh
    have hpart2 : encs55 l ++ rest = (encs55 (l.take i) ++ enc55 l[i]) ++ (encs55 (l.drop (i + 1)) ++ rest) := by rw [hpart]; simp only [List.append_assoc]
    obtain ⟨W1, hcp1, hh1, hs1, ho1, hB1⟩ := copy_row (W := (w.drewN N).drew) g (i * 3) _ hhd (encs55 (l.drop (i + 1))) (some ⟨g, i * 3, none⟩) (some ⟨g, (i + 1) * 3, none⟩) (l.length - 1 - i) (cv - i) (l.length - (i + 1)) (cv - (i + 1))
      (by rw [hdl]; congr 1; omega) (fun _ => ⟨rfl, _, rfl, cells_part g ((i + 1) * 3) (encs55 (l.take i) ++ enc55 l[i]) _ rest (by rw [← hpart2]; exact hhd) (by rw [List.length_append, htl, enc_length]; omega)⟩) (by rw [hcl, hdl]; omega) (encs_one _)
    have hl1 : ∃ Y : List Value, splice (encs55 l ++ rest) (i * 3) (encs55 (l.drop (i + 1))) = encs55 (l.take i ++ l.drop (i + 1)) ++ Y ∧ Y.length = 3 + rest.length := by
      have := splice_over (encs55 (l.take i)) (enc55 l[i] ++ (encs55 (l.drop (i + 1)) ++ rest)) (encs55 (l.drop (i + 1)))
      rw [htl, ← hpart] at this
      refine ⟨_, by rw [this, encs_append, List.append_assoc], ?_⟩
      rw [List.length_drop, List.length_append, List.length_append, enc_length]
      omega
    obtain ⟨Y, hl1, hY⟩ := hl1
    have htl1 : (encs55 (l.take i ++ l.drop (i + 1))).length = (l.length - 1) * 3 := by rw [encs_length, List.length_append, List.length_take, List.length_drop]; omega
    rw [hl1] at hh1
    have hcl' : l.length * 3 + rest.length = cv * 3 := by rw [List.length_append, hel] at hcl; exact hcl
    obtain ⟨zs, W2, hzs, hcp2, hh2, hs2, ho2, hB2⟩ := run_clear55 W1 g ((l.length - 1) * 3) (l.length - (l.length - 1)) (cv - (l.length - 1)) (by omega) _ hh1 (by rw [List.length_append, htl1]; omega)
    have hl2 : splice (encs55 (l.take i ++ l.drop (i + 1)) ++ Y) ((l.length - 1) * 3) zs = encs55 (l.take i ++ l.drop (i + 1)) ++ (zs ++ Y.drop zs.length) := by
      rw [← htl1]
      exact splice_over _ _ _
    rw [hl2] at hh2
    have hlen : (l.take i ++ l.drop (i + 1)).length = l.length - 1 := by rw [List.length_append, List.length_take, List.length_drop]; omega
    refine ⟨W1, W2, fun d dl dc ty => ?_, hcp1, hcp2, ?_, hB2 _ _ (hB1 _ _ (pw_below_drewN (Below.refl _ _) N).drew hbg) hbg, ?_⟩
    · exact Go.Proofs.Aid.run_copy_rows_none (P := Try.prog) (w.drewN N) 44 44 ty 55 3 d A3 dl dc 0 c3 Try.underlying44 (by obtain ⟨i, hi, _, hs, _⟩ := info_parts info55; rw [hi]; simp [hs]) (by omega)
    · have := R_close55 (base := base) (cv := cv) hbg _ hh2 (by rw [List.length_append, List.length_append, htl1, List.length_drop]; omega) (by omega) hcm
      rwa [hlen] at this
    · have h1 : W2.heap.size = W1.heap.size := hs2
      have h2 : W1.heap.size = w.heap.size := hs1
      omega
  have hw1 : IntKind.i64.wrap ((i : Int) + 1) = (i : Int) + 1 := by rw [IntKind.wrap_i64]; omega
  have htn : ((i : Int) + 1).toNat = i + 1 := by omega
  have hne : ¬ ((i : Int) + 1 = (l.length : Int)) := by omega
  have hne2 : ¬ ((i : Int) = (i : Int) + 1) := by omega
  have hb1 : (0 : Int) ≤ (i : Int) + 1 := by omega
  have hb4 : (i : Int) ≤ (l.length : Int) := by omega
  have hb5 : (i : Int) + 1 ≤ (l.length : Int) := by omega
  have hb6 : (i : Int) ≤ (i : Int) + 1 := by omega
  have hb2 : ¬ cv = i := by omega
  have hb3 : ¬ cv = i + 1 := by omega
  have htot : (i : Int) + 0 + ((l.length - (i + 1) : Nat) : Int) = ((l.length - 1 : Nat) : Int) := by omega
  have htot2 : (i : Int) + ((l.length - (i + 1) : Nat) : Int) = ((l.length - 1 : Nat) : Int) := by omega
  have hwi : IntKind.i64.wrap (i : Int) = (i : Int) := by rw [IntKind.wrap_i64]; omega
  have hwt : IntKind.i64.wrap ((i : Int) + ((l.length - (i + 1) : Nat) : Int)) = ((l.length - 1 : Nat) : Int) := by rw [htot2, IntKind.wrap_i64]; omega
  have hwt2 : IntKind.i64.wrap ((l.length - 1 : Nat) : Int) = ((l.length - 1 : Nat) : Int) := by rw [IntKind.wrap_i64]; omega
  have hb7 : ¬ (cv < l.length - 1) := by omega
  have hb8 : (i : Int) ≤ ((l.length - 1 : Nat) : Int) := by omega
  have hb9 : ((l.length - 1 : Nat) : Int) ≤ (l.length : Int) := by omega
  have hb10 : ((l.length - 1 : Nat) : Int) ≤ (cv : Int) := by omega
  have hb11 : ¬ cv = l.length - 1 := by omega
  have HH := Lib.hid H
  clear hR hh hcl hel H
  go_enter Try.func67, Try.ntmps67
  go_wp2_with fail
  go_quiet (fail)
  rename_i nq
  obtain ⟨W1, W2, hcp0, hcp1, hcp2, hfin, hBel, hsz⟩ := HH.out nq
  have HF := Lib.hid hfin
  have HBe := Lib.hid hBel
  clear hfin hBel
  go_wp2_with (with_reducible refine wpList_copy_runJ rfl (.tmp 95) (.tmp 96) 44 44 rfl _ _ rfl rfl (hcp0 _ _ _ _) ?_)
  go_region_law (refine step_copy_runK rfl (.tmp 103) (.tmp 106) 44 44 rfl (.slice (some ⟨g, i * 3, none⟩) (l.length - 1 - i) (cv - i)) (.slice (some ⟨g, (i + 1) * 3, none⟩) (l.length - (i + 1)) (cv - (i + 1))) (by simp [Act.eval, Act.put]) (by simp [Act.eval, Act.put]) (hcp1 _) ?_)
  go_wp2
  go_ret
  exact ⟨_, rfl, HF.out, HBe.out, hsz⟩
set_option maxRecDepth 100000 in
set_option maxHeartbeats 4000000 in
/-- slices.Replace(s, n - 1, n): the last one is left out. -/
theorem replace_last_out_calls (base g cv : Nat) (l : List S55) (k : Nat) (hk : l.length = k + 1) (A3 : Option Addr) (c3 : Nat) (w : World) (hR : k55.R 55 w base (fun _ => True) (.slice (some ⟨g, 0, none⟩) l.length cv) l) (hb : base ≤ w.heap.size) (hl : l.length ≤ 1048576) :
    Calls Try.prog 67 #[.slice (some ⟨g, 0, none⟩) l.length cv, .int .i64 (k : Int), .int .i64 ((k : Int) + 1), .slice A3 0 c3] w fun e w' => ∃ v, e = .returned v ∧ k55.R 55 w' base (fun _ => True) v (l.take k) ∧ Below base w w' ∧ w.heap.size ≤ w'.heap.size := by
  obtain ⟨_, hbg, hgs, hncv, hcm, rest, hh, hcl⟩ := R_open55 hR
  have hc63 : cv ≤ 9223372036854775807 := by unfold maxLen at hcm; omega
  have hap := run_append_zero w g k cv A3 c3 (by omega)
  have H : ∃ W2, (∀ ty, (Builtin.clear_ #[44] ty #[.slice (some ⟨g, k * 3, none⟩) 1 (cv - k)]).run Try.prog w = .ok (.tuple #[]) W2) ∧ k55.R 55 W2 base (fun _ => True) (.slice (some ⟨g, 0, none⟩) k cv) (l.take k) ∧ Below base w W2 ∧ w.heap.size ≤ W2.heap.size := by
    have htl : (encs55 (l.take k)).length = k * 3 := by rw [encs_length, List.length_take]; omega
    have hcl' := hcl
    rw [List.length_append, encs_length] at hcl'
    obtain ⟨zs, W2, hzs, hcp2, hh2, hs2, ho2, hB2⟩ := run_clear55 w g (k * 3) 1 (cv - k) (by omega) _ hh (by rw [hcl]; omega)
    have hpart : encs55 l ++ rest = encs55 (l.take k) ++ (encs55 (l.drop k) ++ rest) := by rw [← List.append_assoc, ← encs_append, List.take_append_drop]
    have hl2 : splice (encs55 l ++ rest) (k * 3) zs = encs55 (l.take k) ++ (zs ++ (encs55 (l.drop k) ++ rest).drop zs.length) := by
      rw [hpart, ← htl]
      exact splice_over _ _ _
    rw [hl2] at hh2
    have hlen : (l.take k).length = k := by rw [List.length_take]; omega
    refine ⟨W2, hcp2, ?_, hB2 _ _ (Below.refl _ _) hbg, by omega⟩
    have := R_close55 (base := base) (cv := cv) hbg _ hh2 (by rw [List.length_append, List.length_append, htl, List.length_drop, List.length_append, encs_length, List.length_drop]; omega) (by omega) hcm
    rwa [hlen] at this
  obtain ⟨W2, hcp2, hfin, hBel, hsz⟩ := H
  have hne : ¬ ((k : Int) = (k : Int) + 1) := by omega
  have hb2 : ¬ cv = k := by omega
  have hb3 : (k : Int) ≤ (cv : Int) := by omega
  have hb4 : (k : Int) + 1 ≤ (cv : Int) := by omega
  rw [hk]
  rw [hk] at hncv hl
  have HF := Lib.hid hfin
  have HBe := Lib.hid hBel
  clear hfin hBel hR hh hcl hk
  go_enter Try.func67, Try.ntmps67
  go_wp2_with (at_builtin; refine Lib.wpList_append_run _ rfl _ _ _ _ rfl _ _ rfl rfl _ _ (hap _) ?_)
  go_ret
  exact ⟨_, rfl, HF.out, HBe.out, hsz⟩
end Go.Proofs.Ytbpobnlkfpjijaa.Pr

/-! disk.with: a row with another one at a place, in the place of none or one; or with one left out. -/
namespace Go.Proofs.Ytbpobnlkfpjijaa.Pr
open Go.RowKit Go.Proofs.YtbpobnlkfpjijaaW.PrintWords Go.Proofs.YtbpobnlkfpjijaaW.PrintLast Go.Proofs.YtbpobnlkfpjijaaW.PrintMore
set_option linter.unusedVariables false
set_option linter.unusedSimpArgs false
attribute [local go_sem] max2_int min2_int max_two min_two max_three min_three max_four min_four Go.Proofs.Aid.cell_set_row
set_option maxRecDepth 100000 in
set_option maxHeartbeats 4000000 in
/-- slices.Replace(s, i, i, x), i < n. -/
theorem replace_ins_calls (base g cv : Nat) (l : List S55) (i : Nat) (hi : i < l.length) (ad : Addr) (c3 : Nat) (x : S55) (w : World) (hR : k55.R 55 w base (fun _ => True) (.slice (some ⟨g, 0, none⟩) l.length cv) l) (hb : base ≤ w.heap.size) (hC : ∀ j v, (enc55 x)[j]? = some v → w.cell? (ad.add j) = some v) (had : ad.block < base) (hl : l.length ≤ 1048576) :
    Calls Try.prog 67 #[.slice (some ⟨g, 0, none⟩) l.length cv, .int .i64 (i : Int), .int .i64 (i : Int), .slice (some ad) 1 c3] w fun e w' => ∃ v, e = .returned v ∧ k55.R 55 w' base (fun _ => True) v (l.take i ++ x :: l.drop i) ∧ Below base w w' ∧ w.heap.size ≤ w'.heap.size := by
  have hins : Calls Try.prog 85 #[.slice (some ⟨g, 0, none⟩) l.length cv, .int .i64 (i : Int), .slice (some ad) 1 c3] w fun e w' => ∃ v, e = .returned v ∧ k55.R 55 w' base (fun _ => True) v (l.take i ++ x :: l.drop i) ∧ Below base w w' ∧ w.heap.size ≤ w'.heap.size := by
    rcases Nat.lt_or_ge cv (l.length + 1) with h | h
    · exact insert_grow_calls base g cv l i hi ad c3 x w hR hb h hC (by omega) hl
    · exact insert_room_calls base g cv l i hi ad c3 x w hR hb h hC had hl
  obtain ⟨_, hbg, hgs, hncv, hcm, _⟩ := R_open55 hR
  have hc63 : cv ≤ 9223372036854775807 := by unfold maxLen at hcm; omega
  have hb2 : ¬ cv = i := by omega
  have hb3 : (i : Int) ≤ (l.length : Int) := by omega
  have hb4 : (i : Int) ≤ (cv : Int) := by omega
  have HI := Lib.hid hins
  clear hins hR hC
  go_enter Try.func67, Try.ntmps67
  go_wp2_with fail
  refine HI.out.mono ?_
  rintro e w1 ⟨v, rfl, hr, hb1, hs⟩
  go_wp2
  go_ret
  exact ⟨_, rfl, hr, hb1, hs⟩
/-- slices.Replace as disk.with calls it. -/
theorem replace_calls (base : Nat) (Av : Option Addr) (cv : Nat) (l0 : List S55) (i many : Nat) (A3 : Option Addr) (c3 : Nat) (l3 : List S55) (w0 w : World) (hR : k55.R 55 w base (fun _ => True) (.slice Av l0.length cv) l0) (hb0 : base = w0.heap.size) (hB : Below base w0 w) (hb : base ≤ w.heap.size) (hc : l0.length ≤ cv) (hC : Kd.C k55 w0 A3 l3.length l3) (hl : l0.length ≤ 1048576)
    (h : (many = 0 ∧ i ≤ l0.length ∧ l3.length = 1) ∨ (many = 1 ∧ i + 1 ≤ l0.length ∧ l3.length ≤ 1)) :
    Calls Try.prog 67 #[.slice Av l0.length cv, .int .i64 (i : Int), .int .i64 ((i : Int) + (many : Int)), .slice A3 l3.length c3] w fun e w' => ∃ v, e = .returned v ∧ k55.R 55 w' base (fun _ => True) v (l0.take i ++ (l3 ++ l0.drop (i + many))) ∧ Below base w w' ∧ w.heap.size ≤ w'.heap.size := by
  subst hb0
  have hC1 : Kd.C k55 w A3 l3.length l3 := Kd.C_below hC hB
  have one : ∀ x, l3 = [x] → ∃ ad, A3 = some ad ∧ ad.block < w0.heap.size ∧ ∀ j v, (enc55 x)[j]? = some v → w.cell? (ad.add j) = some v := by
    intro x hx
    subst hx
    obtain ⟨ad, he, hcv⟩ := C_one55 hC
    have hbl : ∀ j, (ad.add j).block = ad.block := fun j => by unfold Addr.add; split <;> rfl
    have hlt : ad.block < w0.heap.size := by have := World.block_lt_of_cell? w0 _ (hcv 0 _ rfl); rwa [hbl] at this
    exact ⟨ad, he, hlt, fun j v hj => (hB.cell (by rw [hbl]; exact hlt)).trans (hcv j v hj)⟩
  have head : 0 < l0.length → ∃ g, Av = some ⟨g, 0, none⟩ := by
    intro hp
    obtain ⟨_, inner, ho, _⟩ := hR
    rcases ho.2 with ⟨he, hz⟩ | ⟨g, cap, cur, he, _⟩
    · omega
    · injection he with he _ _; exact ⟨g, he⟩
  rcases h with ⟨rfl, hi, h3⟩ | ⟨rfl, hi, h3⟩
  · obtain ⟨x, rfl⟩ := List.length_eq_one_iff.1 h3
    rw [show (i : Int) + ((0 : Nat) : Int) = (i : Int) by omega, Nat.add_zero]
    rcases Nat.lt_or_ge i l0.length with hlt | hge
    · obtain ⟨g, rfl⟩ := head (by omega)
      obtain ⟨ad, rfl, had, hcv⟩ := one x rfl
      exact replace_ins_calls _ g cv l0 i hlt ad c3 x w hR hb hcv had hl
    · obtain rfl : i = l0.length := by omega
      rw [List.take_length, List.drop_length]
      exact replace_end_calls _ Av cv l0 A3 c3 x w hR hb hc hC1 hl
  · obtain ⟨g, rfl⟩ := head (by omega)
    rw [show (i : Int) + ((1 : Nat) : Int) = (i : Int) + 1 by omega]
    rcases Nat.lt_or_ge (i + 1) l0.length with hlt | hge
    · rcases l3 with _ | ⟨x, l3⟩
      · exact replace_out_calls _ g cv l0 i hlt A3 c3 w hR hb hl
      · obtain rfl : l3 = [] := by cases l3 with
          | nil => rfl
          | cons y l3 => simp at h3
        obtain ⟨ad, rfl, had, hcv⟩ := one x rfl
        exact replace_mid_calls _ g cv l0 i hlt ad c3 x w hR hb hcv had hl
    · have hk : l0.length = i + 1 := by omega
      rcases l3 with _ | ⟨x, l3⟩
      · rw [List.nil_append, ← hk, List.drop_length, List.append_nil]
        exact replace_last_out_calls _ g cv l0 i hk A3 c3 w hR hb hl
      · obtain rfl : l3 = [] := by cases l3 with
          | nil => rfl
          | cons y l3 => simp at h3
        rw [← hk, List.drop_length, List.append_nil]
        exact replace_last_calls _ _ cv l0 i hk A3 c3 x w hR hb hc hC1 hl
/-- disk.with. -/
def api_File_50.f (l0 : List (S55)) (a1 : Int) (a2 : Int) (l3 : List (S55)) : Option ((List (S55))) :=
  if l0.length ≤ 1048576 ∧ 0 ≤ a1 ∧ ((a2 = 0 ∧ a1 ≤ (l0.length : Int) ∧ l3.length = 1) ∨ (a2 = 1 ∧ a1 + 1 ≤ (l0.length : Int) ∧ l3.length ≤ 1)) then some (l0.take a1.toNat ++ (l3 ++ l0.drop (a1 + a2).toNat)) else none
set_option maxRecDepth 100000 in
set_option maxHeartbeats 4000000 in
theorem with_calls (A0 : Option Addr) (c0 : Nat) (l0 : List (S55)) (i many : Nat) (A3 : Option Addr) (c3 : Nat) (l3 : List (S55)) (w : World) (hC0 : Kd.C k55 w A0 l0.length l0) (hc0 : l0.length ≤ c0) (hC3 : Kd.C k55 w A3 l3.length l3) (hl : l0.length ≤ 1048576)
    (h : (many = 0 ∧ i ≤ l0.length ∧ l3.length = 1) ∨ (many = 1 ∧ i + 1 ≤ l0.length ∧ l3.length ≤ 1)) :
    Calls Try.prog 50 #[.slice A0 l0.length c0, .int .i64 (i : Int), .int .i64 (many : Int), .slice A3 l3.length c3] w fun e w' => ∃ v0_ : Value, e = .returned (v0_) ∧ k55.R 55 w' w.heap.size (fun _ => True) v0_ (l0.take i ++ (l3 ++ l0.drop (i + many))) ∧ Below w.heap.size w w' := by
  have HC0 := Lib.hid hC0
  have HC3 := Lib.hid hC3
  have HH := Lib.hid h
  have hi : i ≤ 1048576 := by omega
  have hm : many ≤ 1 := by omega
  have hw : IntKind.i64.wrap ((i : Int) + (many : Int)) = (i : Int) + (many : Int) := by rw [IntKind.wrap_i64]; omega
  have hw1 : (0 : Int) ≤ (i : Int) + (many : Int) := by omega
  clear hC0 hC3 h
  go_enter Try.func50, Try.ntmps50
  go_wp2_with fail
  refine (clone_calls A0 c0 l0 w HC0.out hc0 hl).mono ?_
  rintro e w1 ⟨v, rfl, hR, hb1, hs1⟩
  obtain ⟨Av, cv, rfl, hcv, _⟩ := Kd.R_reads hR
  have HR := Lib.hid hR
  clear hR
  go_wp2_with fail
  refine (replace_calls w.heap.size Av cv l0 i many A3 c3 l3 w w1 HR.out rfl hb1 hs1 hcv HC3.out hl HH.out).mono ?_
  rintro e w2 ⟨v, rfl, hr, hb2, hs2⟩
  go_wp2
  go_ret
  exact ⟨_, rfl, hr, hb1.trans hb2⟩
theorem api_File_50.calls (P0_ : Nat → Prop) (A0 : Option Addr) (c0 : Nat) (l0 : List (S55)) (a1 : Int) (a2 : Int) (P3_ : Nat → Prop) (A3 : Option Addr) (c3 : Nat) (l3 : List (S55)) (r : List (S55)) (w : World) (hs0 : Kd.V k55 55 w w.heap.size (fun k_ => P0_ k_) (.slice A0 l0.length c0) l0) (hs3 : Kd.V k55 55 w w.heap.size (fun k_ => P3_ k_) (.slice A3 l3.length c3) l3) (h : api_File_50.f l0 a1 a2 l3 = some r) :
    Calls Try.prog 50 #[.slice A0 l0.length c0, .int .i64 a1, .int .i64 a2, .slice A3 l3.length c3] w fun e w' => ∃ v0_ : Value, e = .returned (v0_) ∧ Kd.V k55 55 w' w.heap.size (fun k_ => ((P0_ k_ ∨ P3_ k_) ∨ w.heap.size ≤ k_)) v0_ r ∧ Below w.heap.size w w' := by
  have h0 := Kd.V_at hs0
  have h3 := Kd.V_at hs3
  unfold api_File_50.f at h
  split at h
  · rename_i hh
    obtain ⟨hl, h1, hc⟩ := hh
    simp only [Option.some.injEq] at h
    subst h
    obtain ⟨i, rfl⟩ := Int.eq_ofNat_of_zero_le h1
    obtain ⟨many, rfl⟩ := Int.eq_ofNat_of_zero_le (show 0 ≤ a2 by omega)
    rw [Int.toNat_natCast, show ((i : Int) + (many : Int)).toNat = i + many by omega]
    refine (with_calls A0 c0 l0 i many A3 c3 l3 w (Kd.F_now h0.2.2) h0.2.1 (Kd.F_now h3.2.2) hl (by omega)).mono ?_
    rintro e w' ⟨v, rfl, hR, hb⟩
    exact ⟨v, rfl, V_of_R hR (fun k hk => .inr hk), hb⟩
  · cases h
end Go.Proofs.Ytbpobnlkfpjijaa.Pr
