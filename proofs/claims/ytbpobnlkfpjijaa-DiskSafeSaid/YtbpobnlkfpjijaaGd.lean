import Derived.Test.YtbpobnlkfpjijaaGc
import Derived.Lib.SliceRun
import Derived.Lib.BufferMore
/-! slices.Clone of files; disk.Crash. -/
namespace Go.Proofs.Ytbpobnlkfpjijaa.Pr
open Go.RowKit Go.Proofs.YtbpobnlkfpjijaaW.PrintWords Go.Proofs.YtbpobnlkfpjijaaW.PrintLast Go.Proofs.YtbpobnlkfpjijaaW.PrintMore
set_option linter.unusedVariables false
set_option linter.unusedSimpArgs false
attribute [local go_sem] max2_int min2_int max_two min_two max_three min_three max_four min_four Go.Proofs.Aid.cell_set_row
set_option maxRecDepth 100000 in
set_option maxHeartbeats 2000000 in
theorem clone_calls (A : Option Addr) (c : Nat) (l : List S55) (w : World) (hC : Kd.C k55 w A l.length l) (hc : l.length ≤ c) (hl : l.length ≤ 1048576) :
    Calls Try.prog 44 #[.slice A l.length c] w fun e w' => ∃ v, e = .returned v ∧ k55.R 55 w' w.heap.size (fun _ => True) v l ∧ Below w.heap.size w w' ∧ w.heap.size ≤ w'.heap.size := by
  have q44 : ∀ (w : World) (a : Option Addr) (n c n' c' : Nat), (binOp .eql 44 (.slice a n c) (.slice none n' c')).run Try.prog w = .ok (.bool a.isNone) w := fun w a n c n' c' => Lib.run_eql_slice_nil w _ _ a n c n' c' Try.underlying44
  have u44 : ∀ w, Sem.run Try.prog (underlying 44) w = .ok (TypeDesc.slice 55) w := run_underlying Try.underlying44
  cases A with
  | none =>
    obtain rfl : l = [] := by
      rcases l with _ | ⟨x, l⟩
      · rfl
      · obtain ⟨_, h, _⟩ := at_T55 hC 0 (by decide) (by simp)
        cases h
    go_enter Try.func44, Try.ntmps44
    go_wp2
    go_ret
    exact ⟨_, rfl, Kd.R_nil _ _ _ _ _, Below.refl _ _, Nat.le_refl _⟩
  | some ad =>
    have HC := Lib.hid hC
    clear hC
    go_enter Try.func44, Try.ntmps44
    go_wp2_with (at_builtin; refine Kd.R_append_rows k55 (Rr := k55.K (w.alloc (.cells #[] 55))) (w0 := w) w.heap.size rfl (.tmp 5) (.tmp 6) 44 55 (.agg #[(.string ⟨#[]⟩), (.string ⟨#[]⟩), (.string ⟨#[]⟩)]) 48 rfl Try.underlying44 info55 rfl (by decide) (by omega) (.slice (some ⟨w.heap.size, 0, none⟩) 0 0) [] l (some ad) l.length c (fun _ => True) (fun _ => False) rfl rfl ?aO ?aR ?aM (fun _ hk => hk.elim) (fun _ _ => trivial) ?aB ?aS ?aL ?_)
    case aO => exact ⟨fun _ _ => trivial, [], World.ownsRow_made w #[] 0 (Nat.le_refl _) (Nat.zero_le _) rfl, Reps.none _ _⟩
    case aR => exact Kd.C_below HC.out (below_alloc (Below.refl _ _) _)
    case aM => intro x cs hk; obtain rfl := k55_open hk; exact k55_mkM _ _ _ x
    case aB => exact below_alloc (Below.refl _ _) _
    case aS => simp
    case aL => simp; omega
    intro v1 w1 hr hb hg hat
    go_wp2
    go_ret
    exact ⟨_, rfl, by simpa using hr, hb, hb.size⟩

/-- The mask of file i. -/
def maskAt (ms : List Int) (i : Nat) : Int := if ms.length = 0 then 0 else ms.getD (i % ms.length) 0
/-- File i, when the power goes. -/
def crashAt (ms : List Int) (i : Nat) (x : S55) : S55 := ⟨x.f0, keptF x.f1 x.f2 (maskAt ms i), keptF x.f1 x.f2 (maskAt ms i)⟩
theorem crash_round {w w3 : World} {base g k fb n cv n0 : Nat} {xs l : List S55} {x : S55} {ms : List Int} {v0 v1 : Array Value} (hlt : k < l.length) (hn : n = l.length) (hg : base ≤ g) (hfb : fb ≠ g) (hb0 : n0 + 1 < base) (hfb0 : n0 + 1 < fb)
    (HB : Below n0 w w3) (h0 : w3.heap[n0]? = some (.cells v0 46 (0, 0))) (h1 : w3.heap[n0 + 1]? = some (.cells v1 46 (0, 0)))
    (hR : k55.R 55 w3 base (fun _ => True) (.slice (some ⟨g, 0, none⟩) l.length cv) xs) (hd : ∀ j, j < k → xs[j]? = (l[j]?).map (crashAt ms j)) (hl : ∀ j, k ≤ j → xs[j]? = l[j]?) (hxl : xs.length = l.length) (hx : l[k] = x) :
    let r := keptF x.f1 x.f2 (maskAt ms k)
    let Wf := ((((w3.setCell ⟨fb, 1, none⟩ (.string r)).setCell ⟨fb, 2, none⟩ (.string r)).setCell ⟨g, k * 3, none⟩ (.string x.f0)).setCell ⟨g, k * 3 + 1, none⟩ (.string r)).setCell ⟨g, k * 3 + 2, none⟩ (.string r)
    ∃ (k' : Nat) (xs' : List S55), k' ≤ l.length ∧ (Value.int .i64 ((k : Int) + 1)) = .int .i64 k' ∧ Below n0 w Wf ∧ Wf.heap[n0]? = some (.cells v0 46 (0, 0)) ∧ Wf.heap[n0 + 1]? = some (.cells v1 46 (0, 0)) ∧ k55.R 55 Wf base (fun _ => True) (.slice (some ⟨g, 0, none⟩) l.length cv) xs' ∧ xs'.length = l.length ∧ (∀ j, j < k' → xs'[j]? = (l[j]?).map (crashAt ms j)) ∧ (∀ j, k' ≤ j → xs'[j]? = l[j]?) := by
  intro r Wf
  have hne : some fb ≠ (Value.slice (some ⟨g, 0, none⟩) l.length cv).ownBlock := by simpa [Value.ownBlock] using hfb
  have hR1 : k55.R 55 (w3.setCell ⟨fb, 1, none⟩ (.string r)) base (fun _ => True) (.slice (some ⟨g, 0, none⟩) l.length cv) xs := Kd.R_mono (Kd.R_far (p := ⟨fb, 1, none⟩) (Kd.R_far1 hR rfl hne) (fun _ hk => hk.2) _) (fun _ _ => trivial)
  have hR2 : k55.R 55 ((w3.setCell ⟨fb, 1, none⟩ (.string r)).setCell ⟨fb, 2, none⟩ (.string r)) base (fun _ => True) (.slice (some ⟨g, 0, none⟩) l.length cv) xs := Kd.R_mono (Kd.R_far (p := ⟨fb, 2, none⟩) (Kd.R_far1 hR1 rfl hne) (fun _ hk => hk.2) _) (fun _ _ => trivial)
  obtain ⟨cs, hcs, hM, hcell, hfro⟩ := Kd.R_elem hR2 z55 (k : Int) (by omega) (by omega)
  have hseg := Kd.R_seg hR2 (k : Int) (by omega) (by omega) (c := cs) (seg := [.string x.f0, .string r, .string r]) (j := 0) (okp := fun _ => False) (x' := crashAt ms k x) hcs hcell (Nat.le_refl 3) (by
    have : cs.take 0 ++ [Value.string x.f0, .string r, .string r] ++ cs.drop (0 + 3) = [Value.string x.f0, .string r, .string r] := by
      have hc3 : cs.length = 3 := hcs
      simp [List.drop_eq_nil_of_le, hc3]
    show k55.M _ _ _ _ (cs.take 0 ++ [Value.string x.f0, .string r, .string r] ++ cs.drop (0 + 3))
    rw [this]
    exact k55_mkM _ _ _ (crashAt ms k x)) (fun _ hk => hk.elim)
  rw [Int.toNat_natCast] at hseg
  refine ⟨k + 1, xs.set k (crashAt ms k x), by omega, by simp, ?_, ?_, ?_, hseg.1, by rw [List.length_set]; exact hxl, ?_, ?_⟩
  · exact ((((HB.setCell (p := ⟨fb, 1, none⟩) (by show n0 ≤ fb; omega) _).setCell (p := ⟨fb, 2, none⟩) (by show n0 ≤ fb; omega) _).setCell (p := ⟨g, k * 3, none⟩) (by show n0 ≤ g; omega) _).setCell (p := ⟨g, k * 3 + 1, none⟩) (by show n0 ≤ g; omega) _).setCell (p := ⟨g, k * 3 + 2, none⟩) (by show n0 ≤ g; omega) _
  · show Wf.heap[n0]? = _
    simp only [Wf]
    rw [Below.heap_setCell _ _ _ _ (by show n0 ≠ g; omega), Below.heap_setCell _ _ _ _ (by show n0 ≠ g; omega), Below.heap_setCell _ _ _ _ (by show n0 ≠ g; omega), Below.heap_setCell _ _ _ _ (by show n0 ≠ fb; omega), Below.heap_setCell _ _ _ _ (by show n0 ≠ fb; omega)]
    exact h0
  · show Wf.heap[n0 + 1]? = _
    simp only [Wf]
    rw [Below.heap_setCell _ _ _ _ (by show n0 + 1 ≠ g; omega), Below.heap_setCell _ _ _ _ (by show n0 + 1 ≠ g; omega), Below.heap_setCell _ _ _ _ (by show n0 + 1 ≠ g; omega), Below.heap_setCell _ _ _ _ (by show n0 + 1 ≠ fb; omega), Below.heap_setCell _ _ _ _ (by show n0 + 1 ≠ fb; omega)]
    exact h1
  · intro j hj
    rw [List.getElem?_set]
    by_cases hjk : k = j
    · subst hjk
      rw [if_pos rfl, if_pos (by omega), List.getElem?_eq_getElem hlt, hx]
      rfl
    · rw [if_neg hjk]
      exact hd j (by omega)
  · intro j hj
    rw [List.getElem?_set, if_neg (by omega)]
    exact hl j (by omega)
set_option maxRecDepth 100000 in
set_option maxHeartbeats 8000000 in
theorem crash_calls (a0 : Int) (A : Option Addr) (c : Nat) (l : List S55) (A1 : Option Addr) (c1 : Nat) (ms : List Int) (w : World) (hC : Kd.C k55 w A l.length l) (hc : l.length ≤ c) (hC1 : Kd.C (Kd.int .u64) w A1 ms.length ms) (hc1 : ms.length ≤ c1) (hl : l.length ≤ 1048576)
    (hx : ∀ x ∈ l, x.f1.size ≤ 140737488351232 ∧ x.f2.size ≤ 140737488351232) (hm : ∀ m ∈ ms, 0 ≤ m ∧ m < 18446744073709551616) :
    Calls Try.prog 24 #[.agg #[.int .i64 a0, .slice A l.length c], .slice A1 ms.length c1] w fun e w' => ∃ v, e = .returned (.agg #[.int .i64 a0, v]) ∧ k55.R 55 w' w.heap.size (fun _ => True) v (l.mapIdx (crashAt ms)) ∧ Below w.heap.size w w' := by
  obtain ⟨W, hW⟩ : ∃ W, (w.alloc (.cells #[.int .i64 a0, .slice A l.length c] 46)).alloc (.cells #[.int .i64 0, .slice none 0 0] 46) = W := ⟨_, rfl⟩
  have hbW : Below w.heap.size w W := by rw [← hW]; exact ((Below.refl _ _).alloc (Nat.le_refl _) _).alloc (by simp) _
  have hsW : W.heap.size = w.heap.size + 2 := by subst hW; simp
  have hz0 : W.heap[w.heap.size]? = some (.cells #[.int .i64 a0, .slice A l.length c] 46 (0, 0)) := by
    subst hW
    rw [heap_alloc_old _ _ (by simp)]
    exact heap_alloc_new w _
  have hz1 : W.heap[w.heap.size + 1]? = some (.cells #[.int .i64 0, .slice none 0 0] 46 (0, 0)) := by
    subst hW
    have := heap_alloc_new (w.alloc (.cells #[.int .i64 a0, .slice A l.length c] 46)) (.cells #[.int .i64 0, .slice none 0 0] 46)
    rwa [World.size_alloc] at this
  have hd0 : W.cell? ⟨w.heap.size, 0, none⟩ = some (.int .i64 a0) := by simp [World.cell?, hz0]
  have hd1 : W.cell? ⟨w.heap.size, 1, none⟩ = some (.slice A l.length c) := by simp [World.cell?, hz0]
  have HC := Lib.hid hC
  clear hC
  have HC1 := Lib.hid hC1
  clear hC1
  go_enter Try.func24, Try.ntmps24
  go_wp2_with fail
  clear hW
  refine (clone_calls A c l W (Kd.C_below HC.out hbW) hc hl).mono ?_
  rintro e w1 ⟨v, rfl, hR, hb1, hsz1⟩
  have hB1 : Below w.heap.size w w1 := below_then hbW hbW.size hb1
  have hy0 := (hb1.block w.heap.size (by omega)).trans hz0
  have hy1 := (hb1.block (w.heap.size + 1) (by omega)).trans hz1
  have hc0' : w1.cell? ⟨w.heap.size, 0, none⟩ = some (.int .i64 a0) := by simp [World.cell?, hy0]
  have hc1' : w1.cell? ⟨w.heap.size, 1, none⟩ = some (.slice A l.length c) := by simp [World.cell?, hy0]
  have hf1 : w1.frozen? ⟨w.heap.size, 1, none⟩ = false := by simp [World.frozen?, hy0]
  obtain ⟨Av, cv, rfl, hcv, hCv⟩ := Kd.R_reads hR
  go_wp2
  clear hd0 hd1 hz0 hz1
  obtain ⟨W2, hW2⟩ : ∃ W2, w1.setCell ⟨w.heap.size, 1, none⟩ (.slice Av l.length cv) = W2 := ⟨_, rfl⟩
  have hB2 : Below w.heap.size w W2 := by rw [← hW2]; exact hB1.setCell (Nat.le_refl _) _
  have hy0' : W2.heap[w.heap.size]? = some (.cells #[.int .i64 a0, .slice Av l.length cv] 46 (0, 0)) := by
    rw [← hW2]
    have := Lib.heap_setCell_same (i := 1) hy0 (.slice Av l.length cv)
    simpa using this
  have hy1' : W2.heap[w.heap.size + 1]? = some (.cells #[.int .i64 0, .slice none 0 0] 46 (0, 0)) := by
    rw [← hW2, Below.heap_setCell _ _ _ _ (by simp)]
    exact hy1
  have hR2 : k55.R 55 W2 W.heap.size (fun _ => True) (.slice Av l.length cv) l := by
    rw [← hW2]
    exact Kd.R_mono (Kd.R_far (p := ⟨w.heap.size, 1, none⟩) (Kd.R_bound hR) (fun k hk => by have := hk.2.1; show k ≠ w.heap.size; omega) _) (fun _ hk => hk.1)
  rw [hW2]
  clear hW2
  go_loopw [15] (fun i wr => ∃ (k : Nat) (xs : List S55), k ≤ l.length ∧ i = .int .i64 k ∧ Below w.heap.size w wr ∧ wr.heap[w.heap.size]? = some (.cells #[.int .i64 a0, .slice Av l.length cv] 46 (0, 0)) ∧ wr.heap[w.heap.size + 1]? = some (.cells #[.int .i64 0, .slice none 0 0] 46 (0, 0)) ∧ k55.R 55 wr W.heap.size (fun _ => True) (.slice Av l.length cv) xs ∧ xs.length = l.length ∧ (∀ j, j < k → xs[j]? = (l[j]?).map (crashAt ms j)) ∧ (∀ j, k ≤ j → xs[j]? = l[j]?)) (fun i _ => l.length - (intOf i).toNat)
  case atStart => exact ⟨0, l, Nat.zero_le _, rfl, hB2, hy0', hy1', hR2, rfl, fun j hj => absurd hj (Nat.not_lt_zero _), fun _ _ => rfl⟩
  case round =>
    clear hR2 hy0' hy1' hB2 hR hy0 hy1 hc0' hc1' hf1 hb1 hCv
    obtain ⟨k, xs, hk, rfl, hb, hy0, hy1, hR, hxl, hdone, hleft⟩ := hrel
    by_cases hlt : k < l.length
    · obtain ⟨g, rfl⟩ : ∃ g, Av = some ⟨g, 0, none⟩ := by
        obtain ⟨_, inner, ho, _⟩ := hR
        rcases ho.2 with ⟨he, hz⟩ | ⟨g, cap, cur, he, _⟩
        · omega
        · injection he with he _ _; exact ⟨g, he⟩
      have hel := hleft k (Nat.le_refl _)
      have hget : xs.getD k z55 = l[k] := by rw [List.getD_eq_getElem?_getD, hel, List.getElem?_eq_getElem hlt]; rfl
      obtain ⟨cs, hcs, hM, hcell, hfro⟩ := Kd.R_elem hR z55 (k : Int) (by omega) (by omega)
      rw [Int.toNat_natCast] at hM hcell hfro
      rw [hget] at hM
      obtain rfl := k55_openM hM
      obtain ⟨x, hxk⟩ : ∃ x, l[k] = x := ⟨_, rfl⟩
      rw [hxk] at hM hcell
      have hx0 : wr.cell? ⟨g, k * 3, none⟩ = some (.string x.f0) := hcell 0 _ rfl
      have hx1 : wr.cell? ⟨g, k * 3 + 1, none⟩ = some (.string x.f1) := hcell 1 _ rfl
      have hx2 : wr.cell? ⟨g, k * 3 + 2, none⟩ = some (.string x.f2) := hcell 2 _ rfl
      have hxb := hx x (by rw [← hxk]; exact List.getElem_mem _)
      have hHR := Lib.hid hR
      have hHD := Lib.hid hdone
      have hHL := Lib.hid hleft
      have hHC := Lib.hid hcell
      have hHM := Lib.hid hM
      have hHY := Lib.hid hy1
      clear hR hdone hleft hcell hM hfro hel hy1
      have hp0 : wr.cell? ⟨w.heap.size, 0, none⟩ = some (.int .i64 a0) := by simp [World.cell?, hy0]
      have hp1 : wr.cell? ⟨w.heap.size, 1, none⟩ = some (.slice (some ⟨g, 0, none⟩) l.length cv) := by simp [World.cell?, hy0]
      have hmr : 0 ≤ maskAt ms k ∧ maskAt ms k < 18446744073709551616 := by
        unfold maskAt
        split
        · omega
        · rename_i h
          rw [List.getD_eq_getElem?_getD, List.getElem?_eq_getElem (Nat.mod_lt _ (by omega))]
          exact hm _ (List.getElem_mem _)
      have after : ∀ w3 : World, Below (wr.alloc (.cells #[.string x.f0, .string x.f1, .string x.f2] 55)).heap.size (wr.alloc (.cells #[.string x.f0, .string x.f1, .string x.f2] 55)) w3 →
          Below w.heap.size w w3 ∧ w3.heap[wr.heap.size]? = some (.cells #[.string x.f0, .string x.f1, .string x.f2] 55 (0, 0)) ∧ k55.R 55 w3 W.heap.size (fun _ => True) (.slice (some ⟨g, 0, none⟩) l.length cv) xs ∧ w.heap.size + 1 < wr.heap.size ∧ W.heap.size ≤ g ∧ g < wr.heap.size ∧
          w3.heap[w.heap.size]? = some (.cells #[.int .i64 a0, .slice (some ⟨g, 0, none⟩) l.length cv] 46 (0, 0)) ∧ w3.heap[w.heap.size + 1]? = some (.cells #[.int .i64 0, .slice none 0 0] 46 (0, 0)) := by
        intro w3 hb3
        have hsb : w.heap.size + 1 < wr.heap.size := by
          rcases Nat.lt_or_ge (w.heap.size + 1) wr.heap.size with h | h
          · exact h
          · have := hHY.out
            rw [Array.getElem?_eq_none h] at this
            cases this
        have hgb : W.heap.size ≤ g ∧ g < wr.heap.size := by
          obtain ⟨_, inner, ho, _⟩ := hHR.out
          exact ho.lt g (by simp [Value.ownBlock])
        refine ⟨below_then (hb.alloc hb.size _) (by have := hb.size; simp; omega) hb3, (hb3.block _ (by simp)).trans (heap_alloc_new wr _), Kd.R_below (Kd.R_alloc hHR.out (.cells #[.string x.f0, .string x.f1, .string x.f2] 55)) hb3, hsb, hgb.1, hgb.2, ?_, ?_⟩
        · rw [hb3.block _ (by simp; omega), heap_alloc_old _ _ (by omega)]; exact hy0
        · rw [hb3.block _ (by simp; omega), heap_alloc_old _ _ (by omega)]; exact hHY.out
      have hmr : 0 ≤ maskAt ms k ∧ maskAt ms k < 18446744073709551616 := by
        unfold maskAt
        split
        · omega
        · rename_i h
          rw [List.getD_eq_getElem?_getD, List.getElem?_eq_getElem (Nat.mod_lt _ (by omega))]
          exact hm _ (List.getElem_mem _)
      have after : ∀ w3 : World, Below (wr.alloc (.cells #[.string x.f0, .string x.f1, .string x.f2] 55)).heap.size (wr.alloc (.cells #[.string x.f0, .string x.f1, .string x.f2] 55)) w3 →
          Below w.heap.size w w3 ∧ w3.heap[wr.heap.size]? = some (.cells #[.string x.f0, .string x.f1, .string x.f2] 55 (0, 0)) ∧ k55.R 55 w3 W.heap.size (fun _ => True) (.slice (some ⟨g, 0, none⟩) l.length cv) xs ∧ w.heap.size + 1 < wr.heap.size ∧ W.heap.size ≤ g ∧ g < wr.heap.size ∧
          w3.heap[w.heap.size]? = some (.cells #[.int .i64 a0, .slice (some ⟨g, 0, none⟩) l.length cv] 46 (0, 0)) ∧ w3.heap[w.heap.size + 1]? = some (.cells #[.int .i64 0, .slice none 0 0] 46 (0, 0)) := by
        intro w3 hb3
        have hsb : w.heap.size + 1 < wr.heap.size := by
          rcases Nat.lt_or_ge (w.heap.size + 1) wr.heap.size with h | h
          · exact h
          · have := hHY.out
            rw [Array.getElem?_eq_none h] at this
            cases this
        have hgb : W.heap.size ≤ g ∧ g < wr.heap.size := by
          obtain ⟨_, inner, ho, _⟩ := hHR.out
          exact ho.lt g (by simp [Value.ownBlock])
        refine ⟨below_then (hb.alloc hb.size _) (by have := hb.size; simp; omega) hb3, (hb3.block _ (by simp)).trans (heap_alloc_new wr _), Kd.R_below (Kd.R_alloc hHR.out (.cells #[.string x.f0, .string x.f1, .string x.f2] 55)) hb3, hsb, hgb.1, hgb.2, ?_, ?_⟩
        · rw [hb3.block _ (by simp; omega), heap_alloc_old _ _ (by omega)]; exact hy0
        · rw [hb3.block _ (by simp; omega), heap_alloc_old _ _ (by omega)]; exact hHY.out
      have hmr : 0 ≤ maskAt ms k ∧ maskAt ms k < 18446744073709551616 := by
        unfold maskAt
        split
        · omega
        · rename_i h
          rw [List.getD_eq_getElem?_getD, List.getElem?_eq_getElem (Nat.mod_lt _ (by omega))]
          exact hm _ (List.getElem_mem _)
      have after : ∀ w3 : World, Below (wr.alloc (.cells #[.string x.f0, .string x.f1, .string x.f2] 55)).heap.size (wr.alloc (.cells #[.string x.f0, .string x.f1, .string x.f2] 55)) w3 →
          Below w.heap.size w w3 ∧ w3.heap[wr.heap.size]? = some (.cells #[.string x.f0, .string x.f1, .string x.f2] 55 (0, 0)) ∧ k55.R 55 w3 W.heap.size (fun _ => True) (.slice (some ⟨g, 0, none⟩) l.length cv) xs ∧ w.heap.size + 1 < wr.heap.size ∧ W.heap.size ≤ g ∧ g < wr.heap.size ∧
          w3.heap[w.heap.size]? = some (.cells #[.int .i64 a0, .slice (some ⟨g, 0, none⟩) l.length cv] 46 (0, 0)) ∧ w3.heap[w.heap.size + 1]? = some (.cells #[.int .i64 0, .slice none 0 0] 46 (0, 0)) := by
        intro w3 hb3
        have hsb : w.heap.size + 1 < wr.heap.size := by
          rcases Nat.lt_or_ge (w.heap.size + 1) wr.heap.size with h | h
          · exact h
          · have := hHY.out
            rw [Array.getElem?_eq_none h] at this
            cases this
        have hgb : W.heap.size ≤ g ∧ g < wr.heap.size := by
          obtain ⟨_, inner, ho, _⟩ := hHR.out
          exact ho.lt g (by simp [Value.ownBlock])
        refine ⟨below_then (hb.alloc hb.size _) (by have := hb.size; simp; omega) hb3, (hb3.block _ (by simp)).trans (heap_alloc_new wr _), Kd.R_below (Kd.R_alloc hHR.out (.cells #[.string x.f0, .string x.f1, .string x.f2] 55)) hb3, hsb, hgb.1, hgb.2, ?_, ?_⟩
        · rw [hb3.block _ (by simp; omega), heap_alloc_old _ _ (by omega)]; exact hy0
        · rw [hb3.block _ (by simp; omega), heap_alloc_old _ _ (by omega)]; exact hHY.out
      have hmr : 0 ≤ maskAt ms k ∧ maskAt ms k < 18446744073709551616 := by
        unfold maskAt
        split
        · omega
        · rename_i h
          rw [List.getD_eq_getElem?_getD, List.getElem?_eq_getElem (Nat.mod_lt _ (by omega))]
          exact hm _ (List.getElem_mem _)
      have after : ∀ w3 : World, Below (wr.alloc (.cells #[.string x.f0, .string x.f1, .string x.f2] 55)).heap.size (wr.alloc (.cells #[.string x.f0, .string x.f1, .string x.f2] 55)) w3 →
          Below w.heap.size w w3 ∧ w3.heap[wr.heap.size]? = some (.cells #[.string x.f0, .string x.f1, .string x.f2] 55 (0, 0)) ∧ k55.R 55 w3 W.heap.size (fun _ => True) (.slice (some ⟨g, 0, none⟩) l.length cv) xs ∧ w.heap.size + 1 < wr.heap.size ∧ W.heap.size ≤ g ∧ g < wr.heap.size ∧
          w3.heap[w.heap.size]? = some (.cells #[.int .i64 a0, .slice (some ⟨g, 0, none⟩) l.length cv] 46 (0, 0)) ∧ w3.heap[w.heap.size + 1]? = some (.cells #[.int .i64 0, .slice none 0 0] 46 (0, 0)) := by
        intro w3 hb3
        have hsb : w.heap.size + 1 < wr.heap.size := by
          rcases Nat.lt_or_ge (w.heap.size + 1) wr.heap.size with h | h
          · exact h
          · have := hHY.out
            rw [Array.getElem?_eq_none h] at this
            cases this
        have hgb : W.heap.size ≤ g ∧ g < wr.heap.size := by
          obtain ⟨_, inner, ho, _⟩ := hHR.out
          exact ho.lt g (by simp [Value.ownBlock])
        refine ⟨below_then (hb.alloc hb.size _) (by have := hb.size; simp; omega) hb3, (hb3.block _ (by simp)).trans (heap_alloc_new wr _), Kd.R_below (Kd.R_alloc hHR.out (.cells #[.string x.f0, .string x.f1, .string x.f2] 55)) hb3, hsb, hgb.1, hgb.2, ?_, ?_⟩
        · rw [hb3.block _ (by simp; omega), heap_alloc_old _ _ (by omega)]; exact hy0
        · rw [hb3.block _ (by simp; omega), heap_alloc_old _ _ (by omega)]; exact hHY.out
      have hmr : 0 ≤ maskAt ms k ∧ maskAt ms k < 18446744073709551616 := by
        unfold maskAt
        split
        · omega
        · rename_i h
          rw [List.getD_eq_getElem?_getD, List.getElem?_eq_getElem (Nat.mod_lt _ (by omega))]
          exact hm _ (List.getElem_mem _)
      have after : ∀ w3 : World, Below (wr.alloc (.cells #[.string x.f0, .string x.f1, .string x.f2] 55)).heap.size (wr.alloc (.cells #[.string x.f0, .string x.f1, .string x.f2] 55)) w3 →
          Below w.heap.size w w3 ∧ w3.heap[wr.heap.size]? = some (.cells #[.string x.f0, .string x.f1, .string x.f2] 55 (0, 0)) ∧ k55.R 55 w3 W.heap.size (fun _ => True) (.slice (some ⟨g, 0, none⟩) l.length cv) xs ∧ w.heap.size + 1 < wr.heap.size ∧ W.heap.size ≤ g ∧ g < wr.heap.size ∧
          w3.heap[w.heap.size]? = some (.cells #[.int .i64 a0, .slice (some ⟨g, 0, none⟩) l.length cv] 46 (0, 0)) ∧ w3.heap[w.heap.size + 1]? = some (.cells #[.int .i64 0, .slice none 0 0] 46 (0, 0)) := by
        intro w3 hb3
        have hsb : w.heap.size + 1 < wr.heap.size := by
          rcases Nat.lt_or_ge (w.heap.size + 1) wr.heap.size with h | h
          · exact h
          · have := hHY.out
            rw [Array.getElem?_eq_none h] at this
            cases this
        have hgb : W.heap.size ≤ g ∧ g < wr.heap.size := by
          obtain ⟨_, inner, ho, _⟩ := hHR.out
          exact ho.lt g (by simp [Value.ownBlock])
        refine ⟨below_then (hb.alloc hb.size _) (by have := hb.size; simp; omega) hb3, (hb3.block _ (by simp)).trans (heap_alloc_new wr _), Kd.R_below (Kd.R_alloc hHR.out (.cells #[.string x.f0, .string x.f1, .string x.f2] 55)) hb3, hsb, hgb.1, hgb.2, ?_, ?_⟩
        · rw [hb3.block _ (by simp; omega), heap_alloc_old _ _ (by omega)]; exact hy0
        · rw [hb3.block _ (by simp; omega), heap_alloc_old _ _ (by omega)]; exact hHY.out
      have hmr : 0 ≤ maskAt ms k ∧ maskAt ms k < 18446744073709551616 := by
        unfold maskAt
        split
        · omega
        · rename_i h
          rw [List.getD_eq_getElem?_getD, List.getElem?_eq_getElem (Nat.mod_lt _ (by omega))]
          exact hm _ (List.getElem_mem _)
      have after : ∀ w3 : World, Below (wr.alloc (.cells #[.string x.f0, .string x.f1, .string x.f2] 55)).heap.size (wr.alloc (.cells #[.string x.f0, .string x.f1, .string x.f2] 55)) w3 →
          Below w.heap.size w w3 ∧ w3.heap[wr.heap.size]? = some (.cells #[.string x.f0, .string x.f1, .string x.f2] 55 (0, 0)) ∧ k55.R 55 w3 W.heap.size (fun _ => True) (.slice (some ⟨g, 0, none⟩) l.length cv) xs ∧ w.heap.size + 1 < wr.heap.size ∧ W.heap.size ≤ g ∧ g < wr.heap.size ∧
          w3.heap[w.heap.size]? = some (.cells #[.int .i64 a0, .slice (some ⟨g, 0, none⟩) l.length cv] 46 (0, 0)) ∧ w3.heap[w.heap.size + 1]? = some (.cells #[.int .i64 0, .slice none 0 0] 46 (0, 0)) := by
        intro w3 hb3
        have hsb : w.heap.size + 1 < wr.heap.size := by
          rcases Nat.lt_or_ge (w.heap.size + 1) wr.heap.size with h | h
          · exact h
          · have := hHY.out
            rw [Array.getElem?_eq_none h] at this
            cases this
        have hgb : W.heap.size ≤ g ∧ g < wr.heap.size := by
          obtain ⟨_, inner, ho, _⟩ := hHR.out
          exact ho.lt g (by simp [Value.ownBlock])
        refine ⟨below_then (hb.alloc hb.size _) (by have := hb.size; simp; omega) hb3, (hb3.block _ (by simp)).trans (heap_alloc_new wr _), Kd.R_below (Kd.R_alloc hHR.out (.cells #[.string x.f0, .string x.f1, .string x.f2] 55)) hb3, hsb, hgb.1, hgb.2, ?_, ?_⟩
        · rw [hb3.block _ (by simp; omega), heap_alloc_old _ _ (by omega)]; exact hy0
        · rw [hb3.block _ (by simp; omega), heap_alloc_old _ _ (by omega)]; exact hHY.out
      have hmr : 0 ≤ maskAt ms k ∧ maskAt ms k < 18446744073709551616 := by
        unfold maskAt
        split
        · omega
        · rename_i h
          rw [List.getD_eq_getElem?_getD, List.getElem?_eq_getElem (Nat.mod_lt _ (by omega))]
          exact hm _ (List.getElem_mem _)
      have after : ∀ w3 : World, Below (wr.alloc (.cells #[.string x.f0, .string x.f1, .string x.f2] 55)).heap.size (wr.alloc (.cells #[.string x.f0, .string x.f1, .string x.f2] 55)) w3 →
          Below w.heap.size w w3 ∧ w3.heap[wr.heap.size]? = some (.cells #[.string x.f0, .string x.f1, .string x.f2] 55 (0, 0)) ∧ k55.R 55 w3 W.heap.size (fun _ => True) (.slice (some ⟨g, 0, none⟩) l.length cv) xs ∧ w.heap.size + 1 < wr.heap.size ∧ W.heap.size ≤ g ∧ g < wr.heap.size ∧
          w3.heap[w.heap.size]? = some (.cells #[.int .i64 a0, .slice (some ⟨g, 0, none⟩) l.length cv] 46 (0, 0)) ∧ w3.heap[w.heap.size + 1]? = some (.cells #[.int .i64 0, .slice none 0 0] 46 (0, 0)) := by
        intro w3 hb3
        have hsb : w.heap.size + 1 < wr.heap.size := by
          rcases Nat.lt_or_ge (w.heap.size + 1) wr.heap.size with h | h
          · exact h
          · have := hHY.out
            rw [Array.getElem?_eq_none h] at this
            cases this
        have hgb : W.heap.size ≤ g ∧ g < wr.heap.size := by
          obtain ⟨_, inner, ho, _⟩ := hHR.out
          exact ho.lt g (by simp [Value.ownBlock])
        refine ⟨below_then (hb.alloc hb.size _) (by have := hb.size; simp; omega) hb3, (hb3.block _ (by simp)).trans (heap_alloc_new wr _), Kd.R_below (Kd.R_alloc hHR.out (.cells #[.string x.f0, .string x.f1, .string x.f2] 55)) hb3, hsb, hgb.1, hgb.2, ?_, ?_⟩
        · rw [hb3.block _ (by simp; omega), heap_alloc_old _ _ (by omega)]; exact hy0
        · rw [hb3.block _ (by simp; omega), heap_alloc_old _ _ (by omega)]; exact hHY.out
      by_cases hms : ms.length = 0
      · have hmk : maskAt ms k = 0 := by unfold maskAt; rw [if_pos hms]
        have hms1 : decide (0 < (ms.length : Int)) = false := decide_eq_false (by omega)
        have hms2 : decide (0 < ms.length) = false := decide_eq_false (by omega)
        clear hms
        go_wp2_with fail
        rw [← hmk]
        refine (kept_calls x.f0 x.f1 x.f2 (maskAt ms k) hxb.1 hxb.2 _ hmr.1 hmr.2).mono ?_
        rintro e w3 ⟨rfl, hb3⟩
        obtain ⟨hB3, hzb, hR3, hsb, hg0, hg1, hq0, hq1⟩ := after w3 hb3
        clear after
        have hqx0 : w3.cell? ⟨wr.heap.size, 0, none⟩ = some (.string x.f0) := by simp [World.cell?, hzb]
        have hqx1 : w3.cell? ⟨wr.heap.size, 1, none⟩ = some (.string x.f1) := by simp [World.cell?, hzb]
        have hqx2 : w3.cell? ⟨wr.heap.size, 2, none⟩ = some (.string x.f2) := by simp [World.cell?, hzb]
        have hqf1 : w3.frozen? ⟨wr.heap.size, 1, none⟩ = false := by simp [World.frozen?, hzb]
        have hqf2 : w3.frozen? ⟨wr.heap.size, 2, none⟩ = false := by simp [World.frozen?, hzb]
        have hqp1 : w3.cell? ⟨w.heap.size, 1, none⟩ = some (.slice (some ⟨g, 0, none⟩) l.length cv) := by simp [World.cell?, hq0]
        obtain ⟨r, hr⟩ : ∃ r, keptF x.f1 x.f2 (maskAt ms k) = r := ⟨_, rfl⟩
        rw [hr]
        clear hx0 hx1 hx2 hp0 hp1 hmk hy0
        have hne : ¬ w.heap.size = wr.heap.size := by omega
        have hne2 : ¬ wr.heap.size = w.heap.size := by omega
        have HQ := Lib.hid hq0
        have HQ1 := Lib.hid hq1
        have HZ := Lib.hid hzb
        have HR3 := Lib.hid hR3
        have HB3 := Lib.hid hB3
        clear hq0 hq1 hzb hR3 hB3 hb hb3
        obtain ⟨cs3, hcs3, hM3, hcell3, hfro3⟩ := Kd.R_elem HR3.out z55 (k : Int) (by omega) (by omega)
        rw [Int.toNat_natCast] at hM3 hcell3 hfro3
        rw [hget, hxk] at hM3
        obtain rfl := k55_openM hM3
        have hk0 : w3.cell? ⟨g, k * 3, none⟩ = some (.string x.f0) := hcell3 0 _ rfl
        have hk1 : w3.cell? ⟨g, k * 3 + 1, none⟩ = some (.string x.f1) := hcell3 1 _ rfl
        have hk2 : w3.cell? ⟨g, k * 3 + 2, none⟩ = some (.string x.f2) := hcell3 2 _ rfl
        have hl0 : w3.frozen? ⟨g, k * 3, none⟩ = false := hfro3 0
        have hl1 : w3.frozen? ⟨g, k * 3 + 1, none⟩ = false := hfro3 1
        have hl2 : w3.frozen? ⟨g, k * 3 + 2, none⟩ = false := hfro3 2
        have hne3 : ¬ g = wr.heap.size := by omega
        have hne4 : ¬ wr.heap.size = g := by omega
        clear hcell3 hfro3
        go_wp2
        go_roundw
        case rel =>
          rw [← hr]
          exact crash_round hlt (by omega) (by omega) (by omega) (by omega) (by omega) HB3.out HQ.out HQ1.out HR3.out hHD.out hHL.out hxl hxk
        case measure => simp [intOf]; omega
      · have hmsp : 0 < ms.length := by omega
        have hmod : k % ms.length < ms.length := Nat.mod_lt _ hmsp
        obtain ⟨ad1, had1, hcm⟩ := Kd.at_int HC1.out ((k % ms.length : Nat) : Int) (by omega) (by omega)
        obtain rfl := had1
        rw [Int.toNat_natCast] at hcm
        have hmk : rd ms ((k % ms.length : Nat) : Int) = maskAt ms k := by unfold maskAt; rw [if_neg hms]; simp only [rd, Int.toNat_natCast]
        rw [hmk] at hcm
        have hcm1 := (hb.cell (World.block_lt_of_cell? w _ hcm)).trans hcm
        have hcm' : (wr.alloc (.cells #[.string x.f0, .string x.f1, .string x.f2] 55)).cell? (ad1.add (k % ms.length)) = some (.int .u64 (maskAt ms k)) := by rw [World.cell?_alloc_lt _ _ _ (World.block_lt_of_cell? wr _ hcm1)]; exact hcm1
        clear hcm1
        have hms1 : decide (0 < (ms.length : Int)) = true := decide_eq_true (by omega)
        have hms2 : decide (0 < ms.length) = true := decide_eq_true (by omega)
        have hms3 : ¬ ((ms.length : Int) = 0) := by omega
        clear hcm hmk
        have hmodi : ((k : Int).tmod (ms.length : Int)) = ((k % ms.length : Nat) : Int) := by simp [Int.tmod]
        have hmk : True := trivial
        go_wp2_with fail
        refine (kept_calls x.f0 x.f1 x.f2 (maskAt ms k) hxb.1 hxb.2 _ hmr.1 hmr.2).mono ?_
        rintro e w3 ⟨rfl, hb3⟩
        obtain ⟨hB3, hzb, hR3, hsb, hg0, hg1, hq0, hq1⟩ := after w3 hb3
        clear after
        have hqx0 : w3.cell? ⟨wr.heap.size, 0, none⟩ = some (.string x.f0) := by simp [World.cell?, hzb]
        have hqx1 : w3.cell? ⟨wr.heap.size, 1, none⟩ = some (.string x.f1) := by simp [World.cell?, hzb]
        have hqx2 : w3.cell? ⟨wr.heap.size, 2, none⟩ = some (.string x.f2) := by simp [World.cell?, hzb]
        have hqf1 : w3.frozen? ⟨wr.heap.size, 1, none⟩ = false := by simp [World.frozen?, hzb]
        have hqf2 : w3.frozen? ⟨wr.heap.size, 2, none⟩ = false := by simp [World.frozen?, hzb]
        have hqp1 : w3.cell? ⟨w.heap.size, 1, none⟩ = some (.slice (some ⟨g, 0, none⟩) l.length cv) := by simp [World.cell?, hq0]
        obtain ⟨r, hr⟩ : ∃ r, keptF x.f1 x.f2 (maskAt ms k) = r := ⟨_, rfl⟩
        rw [hr]
        clear hx0 hx1 hx2 hp0 hp1 hy0
        have hne : ¬ w.heap.size = wr.heap.size := by omega
        have hne2 : ¬ wr.heap.size = w.heap.size := by omega
        have HQ := Lib.hid hq0
        have HQ1 := Lib.hid hq1
        have HZ := Lib.hid hzb
        have HR3 := Lib.hid hR3
        have HB3 := Lib.hid hB3
        clear hq0 hq1 hzb hR3 hB3 hb hb3
        obtain ⟨cs3, hcs3, hM3, hcell3, hfro3⟩ := Kd.R_elem HR3.out z55 (k : Int) (by omega) (by omega)
        rw [Int.toNat_natCast] at hM3 hcell3 hfro3
        rw [hget, hxk] at hM3
        obtain rfl := k55_openM hM3
        have hk0 : w3.cell? ⟨g, k * 3, none⟩ = some (.string x.f0) := hcell3 0 _ rfl
        have hk1 : w3.cell? ⟨g, k * 3 + 1, none⟩ = some (.string x.f1) := hcell3 1 _ rfl
        have hk2 : w3.cell? ⟨g, k * 3 + 2, none⟩ = some (.string x.f2) := hcell3 2 _ rfl
        have hl0 : w3.frozen? ⟨g, k * 3, none⟩ = false := hfro3 0
        have hl1 : w3.frozen? ⟨g, k * 3 + 1, none⟩ = false := hfro3 1
        have hl2 : w3.frozen? ⟨g, k * 3 + 2, none⟩ = false := hfro3 2
        have hne3 : ¬ g = wr.heap.size := by omega
        have hne4 : ¬ wr.heap.size = g := by omega
        clear hcell3 hfro3
        go_wp2
        go_roundw
        case rel =>
          rw [← hr]
          exact crash_round hlt (by omega) (by omega) (by omega) (by omega) (by omega) HB3.out HQ.out HQ1.out HR3.out hHD.out hHL.out hxl hxk
        case measure => simp [intOf]; omega
    · obtain rfl : k = l.length := by omega
      have hfin : xs = l.mapIdx (crashAt ms) := by
        apply List.ext_getElem?
        intro j
        rw [List.getElem?_mapIdx]
        rcases Nat.lt_or_ge j l.length with h | h
        · exact hdone j h
        · rw [hleft j h, List.getElem?_eq_none h]; rfl
      have HF := Lib.hid hfin
      have hp0 : wr.cell? ⟨w.heap.size, 0, none⟩ = some (.int .i64 a0) := by simp [World.cell?, hy0]
      have hp1 : wr.cell? ⟨w.heap.size, 1, none⟩ = some (.slice Av l.length cv) := by simp [World.cell?, hy0]
      have hr0 : wr.cell? ⟨w.heap.size + 1, 0, none⟩ = some (.int .i64 0) := by simp [World.cell?, hy1]
      have hr1 : wr.cell? ⟨w.heap.size + 1, 1, none⟩ = some (.slice none 0 0) := by simp [World.cell?, hy1]
      have hrf0 : wr.frozen? ⟨w.heap.size + 1, 0, none⟩ = false := by simp [World.frozen?, hy1]
      have hrf1 : wr.frozen? ⟨w.heap.size + 1, 1, none⟩ = false := by simp [World.frozen?, hy1]
      have HY := Lib.hid hy1
      have HR := Lib.hid hR
      have HB := Lib.hid hb
      clear hfin hdone hleft hR hb hy0 hy1
      go_wp2
      refine bodyPost_ret (results_cell_row rfl _ _ (w.heap.size + 1) 46 #[.int .i64 a0, .slice Av l.length cv] (0, 0) _ rfl ?_ Try.underlying46 rfl (by kernel_rfl)) rfl ?_
      · have h1 := Lib.heap_setCell_same (i := 0) HY.out (.int .i64 a0)
        have h2 := Lib.heap_setCell_same (i := 1) h1 (.slice Av l.length cv)
        simpa using h2
      · refine ⟨_, rfl, ?_, (HB.out.setCell (p := ⟨w.heap.size + 1, 0, none⟩) (by show w.heap.size ≤ w.heap.size + 1; omega) _).setCell (p := ⟨w.heap.size + 1, 1, none⟩) (by show w.heap.size ≤ w.heap.size + 1; omega) _⟩
        rw [← HF.out]
        have hr1 := Kd.R_far (p := ⟨w.heap.size + 1, 0, none⟩) (Kd.R_bound HR.out) (fun k hk => by have := hk.2.1; show k ≠ w.heap.size + 1; omega) (.int .i64 a0)
        have hr2 := Kd.R_far (p := ⟨w.heap.size + 1, 1, none⟩) (Kd.R_bound hr1) (fun k hk => by have := hk.2.1; show k ≠ w.heap.size + 1; omega) (.slice Av l.length cv)
        exact Kd.R_mono (Kd.R_lower hr2 (by omega)) (fun _ _ => trivial)
/-- disk.Crash. -/
def disk_Crash.f (a0_0 : Int) (l0_1 : List (S55)) (l1 : List Int) : Option (Int × (List (S55))) :=
  if l0_1.length ≤ 1048576 ∧ (∀ x ∈ l0_1, x.f1.size ≤ 140737488351232 ∧ x.f2.size ≤ 140737488351232) ∧ (∀ m ∈ l1, 0 ≤ m ∧ m < 18446744073709551616) then some (a0_0, l0_1.mapIdx (crashAt l1)) else none
theorem V_of_R {α : Type} {d : Kd α} {e base : Nat} {W : World} {ok ok' : Nat → Prop} {v : Value} {xs : List α} (h : d.R e W base ok v xs) (hok : ∀ k, base ≤ k → ok' k) : Kd.V d e W base ok' v xs := by
  obtain ⟨A, c, rfl, hc, _⟩ := Kd.R_reads h
  exact ⟨A, c, rfl, hc, Kd.F_mono (Kd.R_F (Kd.R_bound h)) (fun k hk => hok k hk.2.1)⟩
theorem disk_Crash.calls (a0_0 : Int) (P0_1_ : Nat → Prop) (A0_1 : Option Addr) (c0_1 : Nat) (l0_1 : List (S55)) (P1_ : Nat → Prop) (A1 : Option Addr) (c1 : Nat) (l1 : List Int) (r1 : Int) (r2 : List (S55)) (w : World) (hs0_1 : Kd.V k55 55 w w.heap.size (fun k_ => P0_1_ k_) (.slice A0_1 l0_1.length c0_1) l0_1) (hs1 : Kd.V (Kd.int .u64) 57 w w.heap.size (fun k_ => P1_ k_) (.slice A1 l1.length c1) l1) (h : disk_Crash.f a0_0 l0_1 l1 = some (r1, r2)) :
    Calls Try.prog 24 #[.agg #[.int .i64 a0_0, .slice A0_1 l0_1.length c0_1], .slice A1 l1.length c1] w fun e w' => ∃ v1_ : Value, e = .returned (.agg #[.int .i64 r1, v1_]) ∧ Kd.V k55 55 w' w.heap.size (fun k_ => ((P0_1_ k_ ∨ P1_ k_) ∨ w.heap.size ≤ k_)) v1_ r2 ∧ Below w.heap.size w w' := by
  unfold disk_Crash.f at h
  split at h
  · rename_i hh
    simp only [Option.some.injEq, Prod.mk.injEq] at h
    obtain ⟨rfl, rfl⟩ := h
    have h0 := Kd.V_at hs0_1
    have h1 := Kd.V_at hs1
    refine (crash_calls a0_0 A0_1 c0_1 l0_1 A1 c1 l1 w (Kd.F_now h0.2.2) h0.2.1 (Kd.F_now h1.2.2) h1.2.1 hh.1 hh.2.1 hh.2.2).mono ?_
    rintro e w' ⟨v, rfl, hR, hb⟩
    exact ⟨v, rfl, V_of_R hR (fun k hk => .inr hk), hb⟩
  · cases h
end Go.Proofs.Ytbpobnlkfpjijaa.Pr
