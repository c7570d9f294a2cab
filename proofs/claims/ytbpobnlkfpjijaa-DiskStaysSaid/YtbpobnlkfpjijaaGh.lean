import Derived.Test.YtbpobnlkfpjijaaGd
/-! slices.Insert and Replace at the end of a row: one more, one for the last one. -/
namespace Go.Proofs.Ytbpobnlkfpjijaa.Pr
open Go.RowKit Go.Proofs.YtbpobnlkfpjijaaW.PrintWords Go.Proofs.YtbpobnlkfpjijaaW.PrintLast Go.Proofs.YtbpobnlkfpjijaaW.PrintMore
set_option linter.unusedVariables false
set_option linter.unusedSimpArgs false
attribute [local go_sem] max2_int min2_int max_two min_two max_three min_three max_four min_four Go.Proofs.Aid.cell_set_row
set_option maxRecDepth 100000 in
set_option maxHeartbeats 2000000 in
theorem insert_end_calls (base : Nat) (Av : Option Addr) (cv : Nat) (l : List S55) (A3 : Option Addr) (c3 : Nat) (x : S55) (w : World) (hR : k55.R 55 w base (fun _ => True) (.slice Av l.length cv) l) (hb : base ≤ w.heap.size) (hc : l.length ≤ cv) (hC : Kd.C k55 w A3 1 [x]) (hl : l.length ≤ 1048576) :
    Calls Try.prog 85 #[.slice Av l.length cv, .int .i64 (l.length : Int), .slice A3 1 c3] w fun e w' => ∃ v, e = .returned v ∧ k55.R 55 w' base (fun _ => True) v (l ++ [x]) ∧ Below base w w' ∧ w.heap.size ≤ w'.heap.size := by
  have HR := Lib.hid hR
  have HC := Lib.hid hC
  clear hR hC
  go_enter Try.func85, Try.ntmps85
  go_wp2_with (at_builtin; refine Kd.R_append_rows k55 (Rr := k55.K w) (w0 := w) base (by rfl) (.tmp 23) (.tmp 24) 44 55 (.agg #[(.string ⟨#[]⟩), (.string ⟨#[]⟩), (.string ⟨#[]⟩)]) 48 rfl Try.underlying44 info55 rfl (by decide) (by omega) (.slice Av l.length cv) l [x] A3 1 c3 (fun _ => True) (fun _ => False) rfl rfl HR.out HC.out ?aM (fun _ hk => hk.elim) (fun _ _ => trivial) (Below.refl _ _) hb ?aL ?_)
  all_goals first
    | (intro y cs hk; obtain rfl := k55_open hk; exact k55_mkM _ _ _ y)
    | omega
    | (intro v1 w1 hr hb1 hg hat
       go_wp2
       go_ret
       exact ⟨_, rfl, hr, hb1, hg.size⟩)
set_option maxRecDepth 100000 in
set_option maxHeartbeats 4000000 in
/-- slices.Replace(s, n, n, x). -/
theorem replace_end_calls (base : Nat) (Av : Option Addr) (cv : Nat) (l : List S55) (A3 : Option Addr) (c3 : Nat) (x : S55) (w : World) (hR : k55.R 55 w base (fun _ => True) (.slice Av l.length cv) l) (hb : base ≤ w.heap.size) (hc : l.length ≤ cv) (hC : Kd.C k55 w A3 1 [x]) (hl : l.length ≤ 1048576) :
    Calls Try.prog 67 #[.slice Av l.length cv, .int .i64 (l.length : Int), .int .i64 (l.length : Int), .slice A3 1 c3] w fun e w' => ∃ v, e = .returned v ∧ k55.R 55 w' base (fun _ => True) v (l ++ [x]) ∧ Below base w w' ∧ w.heap.size ≤ w'.heap.size := by
  have HR := Lib.hid hR
  have HC := Lib.hid hC
  clear hR hC
  go_enter Try.func67, Try.ntmps67
  go_wp2_with fail
  · have hh : cv = l.length := by assumption
    have HR1 : k55.R 55 w base (fun _ => True) (.slice Av l.length l.length) l := by
      have := HR.out
      rw [hh] at this
      exact this
    refine (insert_end_calls base Av l.length l A3 c3 x w HR1 hb (Nat.le_refl _) HC.out hl).mono ?_
    rintro e w1 ⟨v, rfl, hr, hb1, hs⟩
    go_wp2
    go_ret
    exact ⟨_, rfl, hr, hb1, hs⟩
  · refine (insert_end_calls base Av cv l A3 c3 x w HR.out hb hc HC.out hl).mono ?_
    rintro e w1 ⟨v, rfl, hr, hb1, hs⟩
    go_wp2
    go_ret
    exact ⟨_, rfl, hr, hb1, hs⟩
set_option maxRecDepth 100000 in
set_option maxHeartbeats 4000000 in
/-- slices.Replace(s, n - 1, n, x). -/
theorem replace_last_calls (base : Nat) (Av : Option Addr) (cv : Nat) (l : List S55) (k : Nat) (hk : l.length = k + 1) (A3 : Option Addr) (c3 : Nat) (x : S55) (w : World) (hR : k55.R 55 w base (fun _ => True) (.slice Av l.length cv) l) (hb : base ≤ w.heap.size) (hc : l.length ≤ cv) (hC : Kd.C k55 w A3 1 [x]) (hl : l.length ≤ 1048576) :
    Calls Try.prog 67 #[.slice Av l.length cv, .int .i64 (k : Int), .int .i64 ((k : Int) + 1), .slice A3 1 c3] w fun e w' => ∃ v, e = .returned v ∧ k55.R 55 w' base (fun _ => True) v (l.take k ++ [x]) ∧ Below base w w' ∧ w.heap.size ≤ w'.heap.size := by
  have hR2 := Kd.R_take (m := k) hR (by omega)
  have hlt : (l.take k).length = k := by rw [List.length_take]; omega
  have HR := Lib.hid hR2
  have HC := Lib.hid hC
  have HL := Lib.hid hlt
  clear hR hC hR2 hlt
  rw [hk]
  rw [hk] at hc hl
  have hne : ¬ ((k : Int) = (k : Int) + 1) := by omega
  go_enter Try.func67, Try.ntmps67
  go_wp2_with (at_builtin; refine Kd.R_append_rows k55 (Rr := k55.K w) (w0 := w) base (by rfl) (.tmp 32) (.tmp 33) 44 55 (.agg #[(.string ⟨#[]⟩), (.string ⟨#[]⟩), (.string ⟨#[]⟩)]) 48 rfl Try.underlying44 info55 rfl (by decide) (by omega) (.slice Av k cv) (l.take k) [x] A3 1 c3 (fun _ => True) (fun _ => False) rfl rfl HR.out HC.out ?aM (fun _ hk => hk.elim) (fun _ _ => trivial) (Below.refl _ _) hb ?aL ?_)
  all_goals first
    | (intro y cs hk; obtain rfl := k55_open hk; exact k55_mkM _ _ _ y)
    | (rw [HL.out]; omega)
    | (intro v1 w1 hr hb1 hg hat
       obtain ⟨A1, c1, rfl, hc1, _⟩ := Kd.R_reads hr
       have hln : (l.take k ++ [x]).length = k + 1 := by rw [List.length_append, HL.out]; rfl
       rw [hln] at hr hc1 ⊢
       have HR2 := Lib.hid hr
       clear hr
       go_wp2
       go_ret
       exact ⟨_, rfl, HR2.out, hb1, hg.size⟩)
end Go.Proofs.Ytbpobnlkfpjijaa.Pr
