import Derived.Test.YtbpobnlkfpjijaaGf1
import Derived.Test.YtbpobnlkfpjijaaGh
/-! slices.Insert of files, anywhere. -/
namespace Go.Proofs.Ytbpobnlkfpjijaa.Pr
open Go.RowKit Go.Proofs.YtbpobnlkfpjijaaW.PrintWords Go.Proofs.YtbpobnlkfpjijaaW.PrintLast Go.Proofs.YtbpobnlkfpjijaaW.PrintMore
set_option linter.unusedVariables false
set_option linter.unusedSimpArgs false
attribute [local go_sem] max2_int min2_int max_two min_two max_three min_three max_four min_four Go.Proofs.Aid.cell_set_row
theorem wpList_copy_runJ {P : Program} {w : World} {ops : Array Oper} {rest : List Oper} {o : Oper} {a : Act} {Q : Exit → Act → World → Prop} (hgd : o.guard = none) (d s : Operand) (t t' : TypeId)
    (ho : o.op = .call { callee := .builtin .copy, args := #[d, s], argTypes := #[t, t'] }) (v u : Value) (hd : a.eval d = v) (hs : a.eval s = u) {v' : Value} {w' : World}
    (hr : (Builtin.copy_ #[t, t'] o.type #[v, u]).run P w = .ok v' w') (h : wpList P ops Q rest (a.put o.dst v') w') : wpList P ops Q (o :: rest) a w := by
  refine wpList_plain hgd fun K hK => ?_
  unfold Oper.wp execOp
  simp only [ho, resolve, invoke, builtin, Sem.run_bind, Sem.run_pure, Result.andThen_ok, List.map_toArray, List.map_cons, List.map_nil, hd, hs, hr]
  exact hK _ _ h
theorem insert_list (l : List S55) (i : Nat) (hi : i < l.length) (x : S55) (rest : List Value) (hr : 3 ≤ rest.length) :
    splice (splice (encs55 l ++ rest) (i * 3 + 3) (encs55 (l.drop i))) (i * 3) (enc55 x) = encs55 (l.take i ++ x :: l.drop i) ++ rest.drop 3 := by
  have e : encs55 l ++ rest = encs55 (l.take i) ++ (encs55 (l.drop i) ++ rest) := by
    rw [← List.append_assoc, ← encs_append, List.take_append_drop]
  have ht : (encs55 (l.take i)).length = i * 3 := by rw [encs_length, List.length_take]; omega
  rcases splice_insert (encs55 (l.take i)) (encs55 (l.drop i)) (enc55 x) rest with h | h
  · rw [e]
    rw [ht, enc_length] at h
    rw [h, encs_append, encs_cons]
    have : (encs55 (l.take i) ++ (encs55 (l.drop i) ++ rest)).drop (i * 3 + 3 + (encs55 (l.drop i)).length) = rest.drop 3 := by
      rw [← List.append_assoc, ← encs_append, List.take_append_drop, encs_length, List.length_drop, show i * 3 + 3 + (l.length - i) * 3 = (encs55 l).length + 3 by rw [encs_length]; omega, ← List.drop_drop, List.drop_left]
    rw [this]
    simp only [List.append_assoc]
  · rw [enc_length] at h; omega
set_option maxRecDepth 100000 in
set_option maxHeartbeats 4000000 in
/-- slices.Insert(s, i, x), i < n: there is room. -/
theorem insert_room_calls (base g cv : Nat) (l : List S55) (i : Nat) (hi : i < l.length) (ad : Addr) (c3 : Nat) (x : S55) (w : World) (hR : k55.R 55 w base (fun _ => True) (.slice (some ⟨g, 0, none⟩) l.length cv) l) (hb : base ≤ w.heap.size) (hroom : l.length + 1 ≤ cv) (hC : ∀ j v, (enc55 x)[j]? = some v → w.cell? (ad.add j) = some v) (had : ad.block < base) (hl : l.length ≤ 1048576) :
    Calls Try.prog 85 #[.slice (some ⟨g, 0, none⟩) l.length cv, .int .i64 (i : Int), .slice (some ad) 1 c3] w fun e w' => ∃ v, e = .returned v ∧ k55.R 55 w' base (fun _ => True) v (l.take i ++ x :: l.drop i) ∧ Below base w w' ∧ w.heap.size ≤ w'.heap.size := by
  obtain ⟨_, hbg, hgs, _, hcm, rest, hh, hcl⟩ := R_open55 hR
  have hc63 : cv ≤ 9223372036854775807 := by unfold maxLen at hcm; omega
  have hrl : 3 ≤ rest.length := by rw [List.length_append, encs_length] at hcl; omega
  have hel : (encs55 l).length = l.length * 3 := encs_length l
  have hov : ∀ lb cb, (callFunc 86 #[.slice (some ad) 1 c3, .slice (some ⟨g, (i + 1) * 3, none⟩) lb cb]).run Try.prog w = .ok (.value (.bool false)) w := fun lb cb => by
    rw [run_callFunc_extern Try.func86 (by kernel_rfl) (by kernel_rfl) (by kernel_rfl) (e := Extern.SlicesOverlaps.overlaps #[44, 44] #[4]) (by kernel_rfl),
      Go.Proofs.Aid.run_overlaps_own w 44 4 55 Try.underlying44 3 (fun w => by kernel_rfl) ad ⟨g, (i + 1) * 3, none⟩ 1 c3 lb cb (by show ad.block ≠ g; omega) (.string x.f0) (by have h0 := hC 0 _ rfl; rwa [show ad.add 0 = ad by simp [Addr.add]] at h0) _ 55 hh (by rw [List.size_toArray]; omega)]
    rfl
  have hw1 : IntKind.i64.wrap ((i : Int) + 1) = (i : Int) + 1 := by rw [IntKind.wrap_i64]; omega
  have hw2 : IntKind.i64.wrap ((l.length : Int) + 1) = (l.length : Int) + 1 := by rw [IntKind.wrap_i64]; omega
  have htn : ((i : Int) + 1).toNat = i + 1 := by omega
  have htn2 : ((l.length : Int) + 1).toNat = l.length + 1 := by omega
  have hne : ¬ ((i : Int) = (l.length : Int)) := by omega
  have hb1 : (0 : Int) ≤ (i : Int) + 1 := by omega
  have hb2 : ¬ cv = i := by omega
  have hb3 : ¬ cv = i + 1 := by omega
  have hb4 : (i : Int) ≤ (l.length : Int) := by omega
  have hb5 : (i : Int) + 1 ≤ (l.length : Int) + 1 := by omega
  have hb7 : (i : Int) ≤ (l.length : Int) + 1 := by omega
  have hb6 : ¬ ((cv : Int) < (l.length : Int) + 1) := by omega
  have hdl : (encs55 (l.drop i)).length = (l.length - i) * 3 := by rw [encs_length, List.length_drop]
  have hpart : encs55 l ++ rest = encs55 (l.take i) ++ (encs55 (l.drop i) ++ rest) := by rw [← List.append_assoc, ← encs_append, List.take_append_drop]
  have htl : (encs55 (l.take i)).length = i * 3 := by rw [encs_length, List.length_take]; omega
  have hhd : w.drew.heap[g]? = some (.cells (encs55 l ++ rest).toArray 55 (0, 0)) := hh
  obtain ⟨W1, hcp1, hh1, hs1, ho1, hB1⟩ := copy_row (W := w.drew) g ((i + 1) * 3) (encs55 l ++ rest) hhd (encs55 (l.drop i)) (some ⟨g, (i + 1) * 3, none⟩) (some ⟨g, i * 3, none⟩) (l.length - i) (cv - (i + 1)) (l.length + 1 - i) (cv - i)
    (by rw [hdl]; congr 1; omega) (fun _ => ⟨rfl, _, rfl, cells_part g (i * 3) (encs55 (l.take i)) _ rest (by rw [← hpart]; exact hhd) htl.symm⟩) (by rw [hdl]; omega) (encs_one _)
  rw [show (i + 1) * 3 = i * 3 + 3 by omega] at hh1
  have hl1 : (splice (encs55 l ++ rest) (i * 3 + 3) (encs55 (l.drop i))).length = cv * 3 := by rw [length_splice _ _ _ (by rw [hdl]; omega)]; exact hcl
  have hw0 : ∀ k, k < w.heap.size → k ≠ g → W1.heap[k]? = w.heap[k]? := fun k _ hk => ho1 k hk
  obtain ⟨W2, hcp2, hh2, hs2, ho2, hB2⟩ := copy_row (W := W1) g (i * 3) _ hh1 (enc55 x) (some ⟨g, i * 3, none⟩) (some ad) (l.length + 1 - i) (cv - i) 1 c3
    (by rw [enc_length]; have : min 1 (l.length + 1 - i) = 1 := by omega
        rw [this]) (fun _ => ⟨rfl, ad, rfl, fun j v hj => by
      have h0 := hC j v hj
      have hbl : (ad.add j).block = ad.block := by unfold Addr.add; split <;> rfl
      rw [World.cell?_of_block (w := w) (by rw [hbl]; exact ho1 _ (by omega))]
      exact h0⟩) (by rw [hl1, enc_length]; omega) (enc_one x)
  rw [insert_list l i hi x rest hrl] at hh2
  have hfin : k55.R 55 W2 base (fun _ => True) (.slice (some ⟨g, 0, none⟩) (l.length + 1) cv) (l.take i ++ x :: l.drop i) := by
    have hlen : (l.take i ++ x :: l.drop i).length = l.length + 1 := by rw [List.length_append, List.length_cons, List.length_take, List.length_drop]; omega
    have := R_close55 (base := base) (cv := cv) hbg _ hh2 (by rw [List.length_append, encs_length, hlen, List.length_drop]; rw [List.length_append, hel] at hcl; omega) (by omega) hcm
    rwa [hlen] at this
  have hBel : Below base w W2 := hB2 _ _ (hB1 _ _ (Below.refl _ _).drew hbg) hbg
  have hsz : w.heap.size ≤ W2.heap.size := by rw [hs2, hs1]; exact Nat.le_refl _
  have HF := Lib.hid hfin
  have HBe := Lib.hid hBel
  clear hR hh hC hcl hel hfin hBel hh2 hB2 hB1 ho2 ho1 hh1 hl1 hhd hpart htl hdl hw0 hs1 hs2
  go_enter Try.func85, Try.ntmps85
  go_wp2_with (simp only [hov])
  go_region_law (refine step_copy_runK rfl (.tmp 73) (.tmp 76) 44 44 rfl (.slice (some ⟨g, (i + 1) * 3, none⟩) (l.length - i) (cv - (i + 1))) (.slice (some ⟨g, i * 3, none⟩) (l.length + 1 - i) (cv - i)) (by simp [Act.eval, Act.put]) (by simp [Act.eval, Act.put]) (hcp1 _) ?_)
  go_wp2_with (with_reducible refine wpList_copy_runJ rfl (.tmp 80) (.tmp 81) 44 44 rfl _ _ rfl rfl (hcp2 _) ?_)
  go_ret
  exact ⟨_, rfl, HF.out, HBe.out, hsz⟩
theorem splice_two (T X D Z : List Value) (h : X.length + D.length ≤ Z.length) :
    splice (splice (T ++ Z) T.length X) (T.length + X.length) D = T ++ (X ++ (D ++ Z.drop (X.length + D.length))) := by
  have h1 : splice (T ++ Z) T.length X = T ++ (X ++ Z.drop X.length) := by
    unfold splice
    rw [List.take_left, ← List.drop_drop, List.drop_left]
  have e : T ++ (X ++ Z.drop X.length) = (T ++ X) ++ Z.drop X.length := (List.append_assoc _ _ _).symm
  rw [h1, e]
  unfold splice
  rw [show T.length + X.length = (T ++ X).length by rw [List.length_append], List.take_left, ← List.drop_drop, List.drop_left, List.drop_drop]
  simp only [List.append_assoc]
theorem zero_length (z : Value) (hz : z.cells.size = 3) (k : Nat) : (Builtin.zeroCells z.cells k).toList.length = k * 3 := by
  simp [Builtin.zeroCells, hz]
set_option maxRecDepth 100000 in
set_option maxHeartbeats 4000000 in
/-- slices.Insert(s, i, x), i < n: there is no room. -/
theorem insert_grow_calls (base g cv : Nat) (l : List S55) (i : Nat) (hi : i < l.length) (ad : Addr) (c3 : Nat) (x : S55) (w : World) (hR : k55.R 55 w base (fun _ => True) (.slice (some ⟨g, 0, none⟩) l.length cv) l) (hb : base ≤ w.heap.size) (hroom : cv < l.length + 1) (hC : ∀ j v, (enc55 x)[j]? = some v → w.cell? (ad.add j) = some v) (had : ad.block < w.heap.size) (hl : l.length ≤ 1048576) :
    Calls Try.prog 85 #[.slice (some ⟨g, 0, none⟩) l.length cv, .int .i64 (i : Int), .slice (some ad) 1 c3] w fun e w' => ∃ v, e = .returned v ∧ k55.R 55 w' base (fun _ => True) v (l.take i ++ x :: l.drop i) ∧ Below base w w' ∧ w.heap.size ≤ w'.heap.size := by
  obtain ⟨_, hbg, hgs, hncv, hcm, rest, hh, hcl⟩ := R_open55 hR
  have hc63 : cv ≤ 9223372036854775807 := by unfold maxLen at hcm; omega
  have hel : (encs55 l).length = l.length * 3 := encs_length l
  have hw1 : IntKind.i64.wrap ((i : Int) + 1) = (i : Int) + 1 := by rw [IntKind.wrap_i64]; omega
  have hw2 : IntKind.i64.wrap ((l.length : Int) + 1) = (l.length : Int) + 1 := by rw [IntKind.wrap_i64]; omega
  have hw3 : IntKind.i64.wrap ((l.length : Int) + 1 - (i : Int)) = (l.length : Int) + 1 - (i : Int) := by rw [IntKind.wrap_i64]; omega
  have htn : ((i : Int) + 1).toNat = i + 1 := by omega
  have hne : ¬ ((i : Int) = (l.length : Int)) := by omega
  have hb1 : (0 : Int) ≤ (i : Int) + 1 := by omega
  have hb2 : ¬ cv = i := by omega
  have hb4 : (i : Int) ≤ (l.length : Int) := by omega
  have hb5 : (i : Int) + 1 ≤ (l.length : Int) + 1 := by omega
  have hb7 : (i : Int) ≤ (l.length : Int) + 1 := by omega
  have hb6 : (cv : Int) < (l.length : Int) + 1 := by omega
  have hb8 : (i : Int) ≤ (cv : Int) := by omega
  have hdl : (encs55 (l.drop i)).length = (l.length - i) * 3 := by rw [encs_length, List.length_drop]
  have hpart : encs55 l ++ rest = encs55 (l.take i) ++ (encs55 (l.drop i) ++ rest) := by rw [← List.append_assoc, ← encs_append, List.take_append_drop]
  have htl : (encs55 (l.take i)).length = i * 3 := by rw [encs_length, List.length_take]; omega
  obtain ⟨i0, hi0, hz0, hzs, hzb⟩ := info_parts info55
  obtain ⟨z, hz⟩ : ∃ z : Value, z = (.agg #[(.string ⟨#[]⟩), (.string ⟨#[]⟩), (.string ⟨#[]⟩)]) := ⟨_, rfl⟩
  rw [← hz] at hz0
  have hzc : z.cells.size = 3 := by subst hz; rfl
  obtain ⟨G, hG⟩ : ∃ G, G = grownCap w (l.length + 1) cv 55 := ⟨_, rfl⟩
  have hGn : l.length + 1 ≤ G := by rw [hG]; exact grownCap_ge w _ _ _
  have hGm : G ≤ maxLen := by rw [hG]; exact grownCap_le_maxLen w _ cv 55 (by unfold maxLen; omega)
  have hG63 : G ≤ 9223372036854775807 := by unfold maxLen at hGm; omega
  obtain ⟨Z, hZ⟩ : ∃ Z : List Value, Z = (Builtin.zeroCells z.cells (l.length + 1 - i)).toList ++ (Builtin.zeroCells z.cells (G - (l.length + 1))).toList := ⟨_, rfl⟩
  have hZl : Z.length = (G - i) * 3 := by rw [hZ, List.length_append, zero_length z hzc, zero_length z hzc]; omega
  obtain ⟨W1, hW1⟩ : ∃ W1, W1 = w.drew.alloc (.cells (encs55 (l.take i) ++ Z).toArray 55) := ⟨_, rfl⟩
  have hold : (Builtin.firstCells i0.size i (.slice (some ⟨g, 0, none⟩) i cv)).run Try.prog w.drew = .ok (encs55 (l.take i)).toArray w.drew := by
    have := run_firstCells_some (P := Try.prog) w.drew i0.size i ⟨g, 0, none⟩ i cv (encs55 (l.take i)) (by rw [hzs, htl]) (cells_part g 0 [] (encs55 (l.take i)) (encs55 (l.drop i) ++ rest) (by rw [List.nil_append, ← hpart]; exact hh) rfl)
    exact this
  have hrz : ∀ ty, (Builtin.append_ #[44, 3] ty #[.slice (some ⟨g, 0, none⟩) i cv, .int .i64 ((l.length : Int) + 1 - (i : Int))]).run Try.prog w = .ok (.slice (some ⟨w.heap.size, 0, none⟩) (l.length + 1) G) W1 := fun ty => by
    have h := Lib.run_append_grow_zeros w 44 3 ty 55 i0 _ .i64 .i64 Try.underlying44 Try.underlying3 hi0 hz0 (some ⟨g, 0, none⟩) i cv (encs55 (l.take i)) hold (l.length + 1 - i) (by omega) (by omega) (by omega) (by omega) (by rw [hzb]; omega) (by rw [hzb]; exact growslice_fits (by omega) (by omega))
    rw [show i + (l.length + 1 - i) = l.length + 1 by omega, ← hG] at h
    rw [show (l.length : Int) + 1 - (i : Int) = ((l.length + 1 - i : Nat) : Int) by omega, h, hW1, hZ]
    have hA : ∀ (a : List Value) (b c : Array Value), a.toArray ++ b ++ c = (a ++ (b.toList ++ c.toList)).toArray := fun a b c => by apply Array.ext'; simp
    rw [hA]
  have hh1 : W1.heap[w.heap.size]? = some (.cells (encs55 (l.take i) ++ Z).toArray 55 (0, 0)) := by rw [hW1]; exact heap_alloc_new w.drew _
  have hbW1 : Below w.heap.size w W1 := by rw [hW1]; exact below_alloc (Below.refl _ _).drew _
  have hsW1 : W1.heap.size = w.heap.size + 1 := by rw [hW1]; simp
  have hl0 : (encs55 (l.take i) ++ Z).length = G * 3 := by rw [List.length_append, htl, hZl]; omega
  obtain ⟨W2, hcp1, hh2, hs2, ho2, hB2⟩ := copy_row (W := W1) w.heap.size (i * 3) _ hh1 (enc55 x) (some ⟨w.heap.size, i * 3, none⟩) (some ad) (l.length + 1 - i) (G - i) 1 c3
    (by rw [enc_length]; have : min 1 (l.length + 1 - i) = 1 := by omega
        rw [this]) (fun _ => ⟨rfl, ad, rfl, fun j v hj => by
      have h0 := hC j v hj
      have hbl : (ad.add j).block = ad.block := by unfold Addr.add; split <;> rfl
      rw [World.cell?_of_block (w := w) (by rw [hbl]; exact hbW1.block _ had)]
      exact h0⟩) (by rw [hl0, enc_length]; omega) (enc_one x)
  have hg2 : W2.drew.heap[g]? = some (.cells (encs55 (l.take i) ++ (encs55 (l.drop i) ++ rest)).toArray 55 (0, 0)) := by
    rw [← hpart]
    exact ((ho2 g (by omega)).trans (hbW1.block g hgs)).trans hh
  have hl2 : (splice (encs55 (l.take i) ++ Z) (i * 3) (enc55 x)).length = G * 3 := by rw [length_splice _ _ _ (by rw [hl0, enc_length]; omega)]; exact hl0
  obtain ⟨W3, hcp2, hh3, hs3, ho3, hB3⟩ := copy_row (W := W2.drew) w.heap.size ((i + 1) * 3) _ hh2 (encs55 (l.drop i)) (some ⟨w.heap.size, (i + 1) * 3, none⟩) (some ⟨g, i * 3, none⟩) (l.length + 1 - (i + 1)) (G - (i + 1)) (l.length - i) (cv - i)
    (by rw [hdl]; congr 1; omega) (fun _ => ⟨rfl, _, rfl, cells_part g (i * 3) (encs55 (l.take i)) _ rest hg2 htl.symm⟩) (by rw [hl2, hdl]; omega) (encs_one _)
  have hlst : splice (splice (encs55 (l.take i) ++ Z) (i * 3) (enc55 x)) ((i + 1) * 3) (encs55 (l.drop i)) = encs55 (l.take i ++ x :: l.drop i) ++ Z.drop (3 + (l.length - i) * 3) := by
    have := splice_two (encs55 (l.take i)) (enc55 x) (encs55 (l.drop i)) Z (by rw [enc_length, hdl, hZl]; omega)
    rw [htl, enc_length, hdl] at this
    rw [show (i + 1) * 3 = i * 3 + 3 by omega, this, encs_append, encs_cons]
    simp only [List.append_assoc]
  rw [hlst] at hh3
  have hfin : k55.R 55 W3 base (fun _ => True) (.slice (some ⟨w.heap.size, 0, none⟩) (l.length + 1) G) (l.take i ++ x :: l.drop i) := by
    have hlen : (l.take i ++ x :: l.drop i).length = l.length + 1 := by rw [List.length_append, List.length_cons, List.length_take, List.length_drop]; omega
    have := R_close55 (base := base) (cv := G) hb _ hh3 (by rw [List.length_append, encs_length, hlen, List.length_drop, hZl]; omega) (by omega) hGm
    rwa [hlen] at this
  have hBel : Below base w W3 := hB3 _ _ (hB2 _ _ (hbW1.mono hb) hb).drew hb
  have hsz : w.heap.size ≤ W3.heap.size := by
    have h3 : W3.heap.size = W2.heap.size := hs3
    omega
  have hb9 : ¬ G = i := by omega
  have hb10 : ¬ G = i + 1 := by omega
  have HF := Lib.hid hfin
  have HBe := Lib.hid hBel
  clear hR hh hC hcl hel hfin hBel hh3 hB3 hB2 ho3 ho2 hh2 hh1 hl2 hl0 hpart htl hdl hg2 hs2 hs3 hlst hZ hZl hG hW1 hold hbW1 hsW1 hz hz0 hzc hi0 hzs hzb
  go_enter Try.func85, Try.ntmps85
  go_wp2_with (first
    | (at_builtin; refine Lib.wpList_append_run _ rfl _ _ _ _ rfl _ _ rfl rfl _ _ (hrz _) ?_)
    | (with_reducible refine wpList_copy_runJ rfl (.tmp 43) (.tmp 44) 44 44 rfl _ _ rfl rfl (hcp1 _) ?_))
  go_region_law (refine step_copy_runK rfl (.tmp 50) (.tmp 53) 44 44 rfl (.slice (some ⟨w.heap.size, (i + 1) * 3, none⟩) (l.length + 1 - (i + 1)) (G - (i + 1))) (.slice (some ⟨g, i * 3, none⟩) (l.length - i) (cv - i)) (by simp [Act.eval, Act.put]) (by simp [Act.eval, Act.put]) (hcp2 _) ?_)
  go_wp2
  go_ret
  exact ⟨_, rfl, HF.out, HBe.out, hsz⟩
end Go.Proofs.Ytbpobnlkfpjijaa.Pr
