import Derived.Test.YtbpobnlkfpjijaaGf2
/-! slices.Replace of files: one by one, one by none; disk.with. -/
namespace Go.Proofs.Ytbpobnlkfpjijaa.Pr
open Go.RowKit Go.Proofs.YtbpobnlkfpjijaaW.PrintWords Go.Proofs.YtbpobnlkfpjijaaW.PrintLast Go.Proofs.YtbpobnlkfpjijaaW.PrintMore
set_option linter.unusedVariables false
set_option linter.unusedSimpArgs false
attribute [local go_sem] max2_int min2_int max_two min_two max_three min_three max_four min_four Go.Proofs.Aid.cell_set_row
theorem run_append_zero (w : World) (g i cv : Nat) (A3 : Option Addr) (c3 : Nat) (hle : i ≤ cv) : ∀ ty, (Builtin.append_ #[44, 44] ty #[.slice (some ⟨g, 0, none⟩) i cv, .slice A3 0 c3]).run Try.prog w = .ok (.slice (some ⟨g, 0, none⟩) i cv) w := by
  intro ty
  obtain ⟨i0, hi0, hz0, hzs, hzb⟩ := info_parts info55
  have hl : ∀ (x : Addr), (loadCells x 0).run Try.prog w = .ok #[] w := fun x => by simpa using run_loadCells_list (P := Try.prog) w x [] (by simp)
  cases A3 <;> simp [Builtin.append_, run_underlying Try.underlying44, sizeOf, typeInfo, hi0, Builtin.lenOf, Builtin.firstCells, storeCells, hle, hl, hzs, Result.andThen]
theorem run_clear55 (W : World) (g o n c : Nat) (hn : 0 < n) (cur : List Value) (hg : W.heap[g]? = some (.cells cur.toArray 55 (0, 0))) (hfit : o + n * 3 ≤ cur.length) :
    ∃ (zs : List Value) (W' : World), zs.length = n * 3 ∧ (∀ ty, (Builtin.clear_ #[44] ty #[.slice (some ⟨g, o, none⟩) n c]).run Try.prog W = .ok (.tuple #[]) W') ∧ W'.heap[g]? = some (.cells (splice cur o zs).toArray 55 (0, 0)) ∧ W'.heap.size = W.heap.size ∧ (∀ k, k ≠ g → W'.heap[k]? = W.heap[k]?) ∧ (∀ B w0, Below B w0 W → B ≤ g → Below B w0 W') := by
  have hzl : (Builtin.zeroCells (Value.agg #[(.string ⟨#[]⟩), (.string ⟨#[]⟩), (.string ⟨#[]⟩)]).cells n).toList.length = n * 3 := zero_length _ rfl n
  obtain ⟨W', h⟩ := Go.Proofs.Aid.run_clear_splice (P := Try.prog) W 44 55 (.agg #[(.string ⟨#[]⟩), (.string ⟨#[]⟩), (.string ⟨#[]⟩)]) Try.underlying44 (fun w => by kernel_rfl) g o n c _ rfl hn cur 55 hg (by rw [hzl]; exact hfit) (by
    intro v hv
    have hm : v ∈ Builtin.zeroCells (Value.agg #[(.string ⟨#[]⟩), (.string ⟨#[]⟩), (.string ⟨#[]⟩)]).cells n := by simpa using hv
    unfold Builtin.zeroCells at hm
    obtain ⟨j, hj, rfl⟩ := Array.mem_map.1 hm
    have h3 : j % 3 = 0 ∨ j % 3 = 1 ∨ j % 3 = 2 := by omega
    show ((#[(.string ⟨#[]⟩), (.string ⟨#[]⟩), (.string ⟨#[]⟩)] : Array Value)[j % 3]!).oneCell' = true
    rcases h3 with h3 | h3 | h3 <;> rw [h3] <;> rfl)
  exact ⟨_, W', hzl, h⟩
theorem splice_over (T Y D : List Value) : splice (T ++ Y) T.length D = T ++ (D ++ Y.drop D.length) := by
  unfold splice
  rw [List.take_left, ← List.drop_drop, List.drop_left]
theorem parts_of (l : List S55) (i : Nat) (hi : i < l.length) (rest : List Value) : encs55 l ++ rest = encs55 (l.take i) ++ (enc55 l[i] ++ (encs55 (l.drop (i + 1)) ++ rest)) := by
  have : l = l.take i ++ l[i] :: l.drop (i + 1) := by rw [← List.drop_eq_getElem_cons hi, List.take_append_drop]
  conv => lhs; rw [this, encs_append, encs_cons]
  simp only [List.append_assoc]
set_option maxRecDepth 100000 in
set_option maxHeartbeats 4000000 in
/-- slices.Replace(s, i, i + 1, x), ahead of the last one. -/
theorem replace_mid_calls (base g cv : Nat) (l : List S55) (i : Nat) (hi : i + 1 < l.length) (ad : Addr) (c3 : Nat) (x : S55) (w : World) (hR : k55.R 55 w base (fun _ => True) (.slice (some ⟨g, 0, none⟩) l.length cv) l) (hb : base ≤ w.heap.size) (hC : ∀ j v, (enc55 x)[j]? = some v → w.cell? (ad.add j) = some v) (had : ad.block < base) (hl : l.length ≤ 1048576) :
    Calls Try.prog 67 #[.slice (some ⟨g, 0, none⟩) l.length cv, .int .i64 (i : Int), .int .i64 ((i : Int) + 1), .slice (some ad) 1 c3] w fun e w' => ∃ v, e = .returned v ∧ k55.R 55 w' base (fun _ => True) v (l.take i ++ x :: l.drop (i + 1)) ∧ Below base w w' ∧ w.heap.size ≤ w'.heap.size := by
  obtain ⟨_, hbg, hgs, hncv, hcm, rest, hh, hcl⟩ := R_open55 hR
  have hc63 : cv ≤ 9223372036854775807 := by unfold maxLen at hcm; omega
  have hel : (encs55 l).length = l.length * 3 := encs_length l
  have H : ∀ N : Nat, ∃ W1 W2, (∀ ty, (Builtin.copy_ #[44, 44] ty #[.slice (some ⟨g, i * 3, none⟩) (l.length - i) (cv - i), .slice (some ad) 1 c3]).run Try.prog (w.drewN N) = .ok (goInt (min 1 (l.length - i) : Nat)) W1) ∧
      (∀ ty, (Builtin.copy_ #[44, 44] ty #[.slice (some ⟨g, (i + 1) * 3, none⟩) (l.length - (i + 1)) (cv - (i + 1)), .slice (some ⟨g, (i + 1) * 3, none⟩) (l.length - (i + 1)) (cv - (i + 1))]).run Try.prog W1.drew = .ok (goInt (min (l.length - (i + 1)) (l.length - (i + 1)) : Nat)) W2) ∧
      k55.R 55 W2 base (fun _ => True) (.slice (some ⟨g, 0, none⟩) l.length cv) (l.take i ++ x :: l.drop (i + 1)) ∧ Below base w W2 ∧ w.heap.size ≤ W2.heap.size := by
    intro N
    have hdl : (encs55 (l.drop (i + 1))).length = (l.length - (i + 1)) * 3 := by rw [encs_length, List.length_drop]
    have htl : (encs55 (l.take i)).length = i * 3 := by rw [encs_length, List.length_take]; omega
    have hpart := parts_of l i (by omega) rest
    have hhd : (w.drewN N).heap[g]? = some (.cells (encs55 l ++ rest).toArray 55 (0, 0)) := hh
    obtain ⟨W1, hcp1, hh1, hs1, ho1, hB1⟩ := copy_row (W := w.drewN N) g (i * 3) _ hhd (enc55 x) (some ⟨g, i * 3, none⟩) (some ad) (l.length - i) (cv - i) 1 c3
      (by rw [enc_length]; have : min 1 (l.length - i) = 1 := by omega
          rw [this]) (fun _ => ⟨rfl, ad, rfl, fun j v hj => hC j v hj⟩) (by rw [hcl, enc_length]; omega) (enc_one x)
    have hl1 : splice (encs55 l ++ rest) (i * 3) (enc55 x) = encs55 (l.take i ++ [x]) ++ (encs55 (l.drop (i + 1)) ++ rest) := by
      have := splice_over (encs55 (l.take i)) (enc55 l[i] ++ (encs55 (l.drop (i + 1)) ++ rest)) (enc55 x)
      have hd3 : (enc55 l[i] ++ (encs55 (l.drop (i + 1)) ++ rest)).drop 3 = encs55 (l.drop (i + 1)) ++ rest := by
        show List.drop (enc55 l[i]).length _ = _
        exact List.drop_left
      rw [htl, ← hpart, enc_length, hd3] at this
      rw [this, encs_append]
      simp [encs55]
    have htl1 : (encs55 (l.take i ++ [x])).length = (i + 1) * 3 := by rw [encs_length, List.length_append, List.length_take]; simp; omega
    have hlen1 : (encs55 (l.take i ++ [x]) ++ (encs55 (l.drop (i + 1)) ++ rest)).length = cv * 3 := by
      rw [List.length_append, List.length_append, htl1, hdl]
      rw [List.length_append, hel] at hcl
      omega
    rw [hl1] at hh1
    have hhd1 : W1.drew.heap[g]? = some (.cells (encs55 (l.take i ++ [x]) ++ (encs55 (l.drop (i + 1)) ++ rest)).toArray 55 (0, 0)) := hh1
    obtain ⟨W2, hcp2, hh2, hs2, ho2, hB2⟩ := copy_row (W := W1.drew) g ((i + 1) * 3) _ hhd1 (encs55 (l.drop (i + 1))) (some ⟨g, (i + 1) * 3, none⟩) (some ⟨g, (i + 1) * 3, none⟩) (l.length - (i + 1)) (cv - (i + 1)) (l.length - (i + 1)) (cv - (i + 1))
      (by rw [hdl]; congr 1; omega) (fun _ => ⟨rfl, _, rfl, cells_part g _ _ _ rest hhd1 htl1.symm⟩) (by rw [hlen1, hdl]; omega) (encs_one _)
    have hl2 : splice (encs55 (l.take i ++ [x]) ++ (encs55 (l.drop (i + 1)) ++ rest)) ((i + 1) * 3) (encs55 (l.drop (i + 1))) = encs55 (l.take i ++ x :: l.drop (i + 1)) ++ rest := by
      have := splice_over (encs55 (l.take i ++ [x])) (encs55 (l.drop (i + 1)) ++ rest) (encs55 (l.drop (i + 1)))
      rw [htl1, List.drop_left] at this
      rw [this, show l.take i ++ x :: l.drop (i + 1) = (l.take i ++ [x]) ++ l.drop (i + 1) by simp, encs_append (l.take i ++ [x])]
      simp only [List.append_assoc]
    rw [hl2] at hh2
    have hlen : (l.take i ++ x :: l.drop (i + 1)).length = l.length := by rw [List.length_append, List.length_cons, List.length_take, List.length_drop]; omega
    refine ⟨W1, W2, hcp1, hcp2, ?_, hB2 _ _ (hB1 _ _ (pw_below_drewN (Below.refl _ _) N) hbg).drew hbg, ?_⟩
    · have := R_close55 (base := base) (cv := cv) hbg _ hh2 (by rw [List.length_append, encs_length, hlen]; rw [List.length_append, hel] at hcl; omega) (by omega) hcm
      rwa [hlen] at this
    · have h1 : W2.heap.size = W1.heap.size := hs2
      have h2 : W1.heap.size = w.heap.size := hs1
      omega
  have hcl0 : ∀ (A : Option Addr) (c : Nat) (ty : TypeId) (W : World), (Builtin.clear_ #[44] ty #[.slice A 0 c]).run Try.prog W = .ok (.tuple #[]) W := fun A c ty W => Go.Proofs.Aid.run_clear_none W 44 55 ty A c Try.underlying44
  have hw1 : IntKind.i64.wrap ((i : Int) + 1) = (i : Int) + 1 := by rw [IntKind.wrap_i64]; omega
  have hw2 : IntKind.i64.wrap ((l.length : Int) + 1) = (l.length : Int) + 1 := by rw [IntKind.wrap_i64]; omega
  have htn : ((i : Int) + 1).toNat = i + 1 := by omega
  have hne : ¬ ((i : Int) + 1 = (l.length : Int)) := by omega
  have hne2 : ¬ ((i : Int) = (i : Int) + 1) := by omega
  have hb1 : (0 : Int) ≤ (i : Int) + 1 := by omega
  have hb4 : (i : Int) ≤ (l.length : Int) := by omega
  have hb5 : (i : Int) + 1 ≤ (l.length : Int) := by omega
  have hb6 : (i : Int) ≤ (i : Int) + 1 := by omega
  have hb2 : ¬ cv = i := by omega
  have hb3 : ¬ cv = i + 1 := by omega
  have htot : (i : Int) + 1 + ((l.length - (i + 1) : Nat) : Int) = (l.length : Int) := by omega
  have hwt : IntKind.i64.wrap ((i : Int) + 1 + ((l.length - (i + 1) : Nat) : Int)) = (l.length : Int) := by rw [htot, IntKind.wrap_i64]; omega
  have hwt2 : IntKind.i64.wrap (l.length : Int) = (l.length : Int) := by rw [IntKind.wrap_i64]; omega
  have HH := Lib.hid H
  clear hR hh hC hcl hel H
  go_enter Try.func67, Try.ntmps67
  go_wp2_with fail
  go_quiet (fail)
  rename_i nq
  obtain ⟨W1, W2, hcp1, hcp2, hfin, hBel, hsz⟩ := HH.out nq
  have HF := Lib.hid hfin
  have HBe := Lib.hid hBel
  clear hfin hBel
  go_wp2_with (with_reducible refine wpList_copy_runJ rfl (.tmp 95) (.tmp 96) 44 44 rfl _ _ rfl rfl (hcp1 _) ?_)
  go_region_law (refine step_copy_runK rfl (.tmp 103) (.tmp 106) 44 44 rfl (.slice (some ⟨g, (i + 1) * 3, none⟩) (l.length - (i + 1)) (cv - (i + 1))) (.slice (some ⟨g, (i + 1) * 3, none⟩) (l.length - (i + 1)) (cv - (i + 1))) (by simp [Act.eval, Act.put]) (by simp [Act.eval, Act.put]) (hcp2 _) ?_)
  go_wp2
  all_goals (go_ret; first | exact ⟨_, rfl, HF.out, HBe.out, hsz⟩ | exact ⟨_, rfl, by have h1 := HF.out; rw [show cv = l.length by assumption] at h1; exact h1, HBe.out, hsz⟩)
set_option maxRecDepth 100000 in
set_option maxHeartbeats 4000000 in
/-- slices.Replace(s, i, i + 1), ahead of the last one: it is left out. -/
theorem replace_out_calls (base g cv : Nat) (l : List S55) (i : Nat) (hi : i + 1 < l.length) (A3 : Option Addr) (c3 : Nat) (w : World) (hR : k55.R 55 w base (fun _ => True) (.slice (some ⟨g, 0, none⟩) l.length cv) l) (hb : base ≤ w.heap.size) (hl : l.length ≤ 1048576) :
    Calls Try.prog 67 #[.slice (some ⟨g, 0, none⟩) l.length cv, .int .i64 (i : Int), .int .i64 ((i : Int) + 1), .slice A3 0 c3] w fun e w' => ∃ v, e = .returned v ∧ k55.R 55 w' base (fun _ => True) v (l.take i ++ l.drop (i + 1)) ∧ Below base w w' ∧ w.heap.size ≤ w'.heap.size := by
  obtain ⟨_, hbg, hgs, hncv, hcm, rest, hh, hcl⟩ := R_open55 hR
  have hc63 : cv ≤ 9223372036854775807 := by unfold maxLen at hcm; omega
  have hel : (encs55 l).length = l.length * 3 := encs_length l
  have H : ∀ N : Nat, ∃ W1 W2, (∀ (d : Option Addr) (dl dc : Nat) (ty : TypeId), (Builtin.copy_ #[44, 44] ty #[.slice d dl dc, .slice A3 0 c3]).run Try.prog (w.drewN N) = .ok (goInt 0) (w.drewN N)) ∧
      (∀ ty, (Builtin.copy_ #[44, 44] ty #[.slice (some ⟨g, i * 3, none⟩) (l.length - 1 - i) (cv - i), .slice (some ⟨g, (i + 1) * 3, none⟩) (l.length - (i + 1)) (cv - (i + 1))]).run Try.prog (w.drewN N).drew = .ok (goInt (min (l.length - (i + 1)) (l.length - 1 - i) : Nat)) W1) ∧
      (∀ ty, (Builtin.clear_ #[44] ty #[.slice (some ⟨g, (l.length - 1) * 3, none⟩) (l.length - (l.length - 1)) (cv - (l.length - 1))]).run Try.prog W1 = .ok (.tuple #[]) W2) ∧
      k55.R 55 W2 base (fun _ => True) (.slice (some ⟨g, 0, none⟩) (l.length - 1) cv) (l.take i ++ l.drop (i + 1)) ∧ Below base w W2 ∧ w.heap.size ≤ W2.heap.size := by
    intro N
    have hdl : (encs55 (l.drop (i + 1))).length = (l.length - (i + 1)) * 3 := by rw [encs_length, List.length_drop]
    have htl : (encs55 (l.take i)).length = i * 3 := by rw [encs_length, List.length_take]; omega
    have hpart := parts_of l i (by omega) rest
    have hhd : (w.drewN N).drew.heap[g]? = some (.cells (encs55 l ++ rest).toArray 55 (0, 0)) := hh
    have hpart2 : encs55 l ++ rest = (encs55 (l.take i) ++ enc55 l[i]) ++ (encs55 (l.drop (i + 1)) ++ rest) := by rw [hpart]; simp only [List.append_assoc]
    obtain ⟨W1, hcp1, hh1, hs1, ho1, hB1⟩ := copy_row (W := (w.drewN N).drew) g (i * 3) _ hhd (encs55 (l.drop (i + 1))) (some ⟨g, i * 3, none⟩) (some ⟨g, (i + 1) * 3, none⟩) (l.length - 1 - i) (cv - i) (l.length - (i + 1)) (cv - (i + 1))
      (by rw [hdl]; congr 1; omega) (fun _ => ⟨rfl, _, rfl, cells_part g ((i + 1) * 3) (encs55 (l.take i) ++ enc55 l[i]) _ rest (by rw [← hpart2]; exact hhd) (by rw [List.length_append, htl, enc_length]; omega)⟩) (by rw [hcl, hdl]; omega) (encs_one _)
    have hl1 : ∃ Y : List Value, splice (encs55 l ++ rest) (i * 3) (encs55 (l.drop (i + 1))) = encs55 (l.take i ++ l.drop (i + 1)) ++ Y ∧ Y.length = 3 + rest.length := by
      have := splice_over (encs55 (l.take i)) (enc55 l[i] ++ (encs55 (l.drop (i + 1)) ++ rest)) (encs55 (l.drop (i + 1)))
      rw [htl, ← hpart] at this
      refine ⟨_, by rw [this, encs_append, List.append_assoc], ?_⟩
      rw [List.length_drop, List.length_append, List.length_append, enc_length]
      omega
    obtain ⟨Y, hl1, hY⟩ := hl1
    have htl1 : (encs55 (l.take i ++ l.drop (i + 1))).length = (l.length - 1) * 3 := by rw [encs_length, List.length_append, List.length_take, List.length_drop]; omega
    rw [hl1] at hh1
    have hcl' : l.length * 3 + rest.length = cv * 3 := by rw [List.length_append, hel] at hcl; exact hcl
    obtain ⟨zs, W2, hzs, hcp2, hh2, hs2, ho2, hB2⟩ := run_clear55 W1 g ((l.length - 1) * 3) (l.length - (l.length - 1)) (cv - (l.length - 1)) (by omega) _ hh1 (by rw [List.length_append, htl1]; omega)
    have hl2 : splice (encs55 (l.take i ++ l.drop (i + 1)) ++ Y) ((l.length - 1) * 3) zs = encs55 (l.take i ++ l.drop (i + 1)) ++ (zs ++ Y.drop zs.length) := by
      rw [← htl1]
      exact splice_over _ _ _
    rw [hl2] at hh2
    have hlen : (l.take i ++ l.drop (i + 1)).length = l.length - 1 := by rw [List.length_append, List.length_take, List.length_drop]; omega
    refine ⟨W1, W2, fun d dl dc ty => ?_, hcp1, hcp2, ?_, hB2 _ _ (hB1 _ _ (pw_below_drewN (Below.refl _ _) N).drew hbg) hbg, ?_⟩
    · exact Go.Proofs.Aid.run_copy_rows_none (P := Try.prog) (w.drewN N) 44 44 ty 55 3 d A3 dl dc 0 c3 Try.underlying44 (by obtain ⟨i, hi, _, hs, _⟩ := info_parts info55; rw [hi]; simp [hs]) (by omega)
    · have := R_close55 (base := base) (cv := cv) hbg _ hh2 (by rw [List.length_append, List.length_append, htl1, List.length_drop]; omega) (by omega) hcm
      rwa [hlen] at this
    · have h1 : W2.heap.size = W1.heap.size := hs2
      have h2 : W1.heap.size = w.heap.size := hs1
      omega
  have hw1 : IntKind.i64.wrap ((i : Int) + 1) = (i : Int) + 1 := by rw [IntKind.wrap_i64]; omega
  have htn : ((i : Int) + 1).toNat = i + 1 := by omega
  have hne : ¬ ((i : Int) + 1 = (l.length : Int)) := by omega
  have hne2 : ¬ ((i : Int) = (i : Int) + 1) := by omega
  have hb1 : (0 : Int) ≤ (i : Int) + 1 := by omega
  have hb4 : (i : Int) ≤ (l.length : Int) := by omega
  have hb5 : (i : Int) + 1 ≤ (l.length : Int) := by omega
  have hb6 : (i : Int) ≤ (i : Int) + 1 := by omega
  have hb2 : ¬ cv = i := by omega
  have hb3 : ¬ cv = i + 1 := by omega
  have htot : (i : Int) + 0 + ((l.length - (i + 1) : Nat) : Int) = ((l.length - 1 : Nat) : Int) := by omega
  have htot2 : (i : Int) + ((l.length - (i + 1) : Nat) : Int) = ((l.length - 1 : Nat) : Int) := by omega
  have hwi : IntKind.i64.wrap (i : Int) = (i : Int) := by rw [IntKind.wrap_i64]; omega
  have hwt : IntKind.i64.wrap ((i : Int) + ((l.length - (i + 1) : Nat) : Int)) = ((l.length - 1 : Nat) : Int) := by rw [htot2, IntKind.wrap_i64]; omega
  have hwt2 : IntKind.i64.wrap ((l.length - 1 : Nat) : Int) = ((l.length - 1 : Nat) : Int) := by rw [IntKind.wrap_i64]; omega
  have hb7 : ¬ (cv < l.length - 1) := by omega
  have hb8 : (i : Int) ≤ ((l.length - 1 : Nat) : Int) := by omega
  have hb9 : ((l.length - 1 : Nat) : Int) ≤ (l.length : Int) := by omega
  have hb10 : ((l.length - 1 : Nat) : Int) ≤ (cv : Int) := by omega
  have hb11 : ¬ cv = l.length - 1 := by omega
  have HH := Lib.hid H
  clear hR hh hcl hel H
  go_enter Try.func67, Try.ntmps67
  go_wp2_with fail
  go_quiet (fail)
  rename_i nq
  obtain ⟨W1, W2, hcp0, hcp1, hcp2, hfin, hBel, hsz⟩ := HH.out nq
  have HF := Lib.hid hfin
  have HBe := Lib.hid hBel
  clear hfin hBel
  go_wp2_with (with_reducible refine wpList_copy_runJ rfl (.tmp 95) (.tmp 96) 44 44 rfl _ _ rfl rfl (hcp0 _ _ _ _) ?_)
  go_region_law (refine step_copy_runK rfl (.tmp 103) (.tmp 106) 44 44 rfl (.slice (some ⟨g, i * 3, none⟩) (l.length - 1 - i) (cv - i)) (.slice (some ⟨g, (i + 1) * 3, none⟩) (l.length - (i + 1)) (cv - (i + 1))) (by simp [Act.eval, Act.put]) (by simp [Act.eval, Act.put]) (hcp1 _) ?_)
  go_wp2
  go_ret
  exact ⟨_, rfl, HF.out, HBe.out, hsz⟩
set_option maxRecDepth 100000 in
set_option maxHeartbeats 4000000 in
/-- slices.Replace(s, n - 1, n): the last one is left out. -/
theorem replace_last_out_calls (base g cv : Nat) (l : List S55) (k : Nat) (hk : l.length = k + 1) (A3 : Option Addr) (c3 : Nat) (w : World) (hR : k55.R 55 w base (fun _ => True) (.slice (some ⟨g, 0, none⟩) l.length cv) l) (hb : base ≤ w.heap.size) (hl : l.length ≤ 1048576) :
    Calls Try.prog 67 #[.slice (some ⟨g, 0, none⟩) l.length cv, .int .i64 (k : Int), .int .i64 ((k : Int) + 1), .slice A3 0 c3] w fun e w' => ∃ v, e = .returned v ∧ k55.R 55 w' base (fun _ => True) v (l.take k) ∧ Below base w w' ∧ w.heap.size ≤ w'.heap.size := by
  obtain ⟨_, hbg, hgs, hncv, hcm, rest, hh, hcl⟩ := R_open55 hR
  have hc63 : cv ≤ 9223372036854775807 := by unfold maxLen at hcm; omega
  have hap := run_append_zero w g k cv A3 c3 (by omega)
  have H : ∃ W2, (∀ ty, (Builtin.clear_ #[44] ty #[.slice (some ⟨g, k * 3, none⟩) 1 (cv - k)]).run Try.prog w = .ok (.tuple #[]) W2) ∧ k55.R 55 W2 base (fun _ => True) (.slice (some ⟨g, 0, none⟩) k cv) (l.take k) ∧ Below base w W2 ∧ w.heap.size ≤ W2.heap.size := by
    have htl : (encs55 (l.take k)).length = k * 3 := by rw [encs_length, List.length_take]; omega
    have hcl' := hcl
    rw [List.length_append, encs_length] at hcl'
    obtain ⟨zs, W2, hzs, hcp2, hh2, hs2, ho2, hB2⟩ := run_clear55 w g (k * 3) 1 (cv - k) (by omega) _ hh (by rw [hcl]; omega)
    have hpart : encs55 l ++ rest = encs55 (l.take k) ++ (encs55 (l.drop k) ++ rest) := by rw [← List.append_assoc, ← encs_append, List.take_append_drop]
    have hl2 : splice (encs55 l ++ rest) (k * 3) zs = encs55 (l.take k) ++ (zs ++ (encs55 (l.drop k) ++ rest).drop zs.length) := by
      rw [hpart, ← htl]
      exact splice_over _ _ _
    rw [hl2] at hh2
    have hlen : (l.take k).length = k := by rw [List.length_take]; omega
    refine ⟨W2, hcp2, ?_, hB2 _ _ (Below.refl _ _) hbg, by omega⟩
    have := R_close55 (base := base) (cv := cv) hbg _ hh2 (by rw [List.length_append, List.length_append, htl, List.length_drop, List.length_append, encs_length, List.length_drop]; omega) (by omega) hcm
    rwa [hlen] at this
  obtain ⟨W2, hcp2, hfin, hBel, hsz⟩ := H
  have hne : ¬ ((k : Int) = (k : Int) + 1) := by omega
  have hb2 : ¬ cv = k := by omega
  have hb3 : (k : Int) ≤ (cv : Int) := by omega
  have hb4 : (k : Int) + 1 ≤ (cv : Int) := by omega
  rw [hk]
  rw [hk] at hncv hl
  have HF := Lib.hid hfin
  have HBe := Lib.hid hBel
  clear hfin hBel hR hh hcl hk
  go_enter Try.func67, Try.ntmps67
  go_wp2_with (at_builtin; refine Lib.wpList_append_run _ rfl _ _ _ _ rfl _ _ rfl rfl _ _ (hap _) ?_)
  go_ret
  exact ⟨_, rfl, HF.out, HBe.out, hsz⟩
end Go.Proofs.Ytbpobnlkfpjijaa.Pr
