import Derived.Test.YtbpobnlkfpjijaaGd
/-! disk.with at the end of a row: one more, one for the last one. -/
namespace Go.Proofs.Ytbpobnlkfpjijaa.Pr
open Go.RowKit Go.Proofs.YtbpobnlkfpjijaaW.PrintWords Go.Proofs.YtbpobnlkfpjijaaW.PrintLast Go.Proofs.YtbpobnlkfpjijaaW.PrintMore
set_option linter.unusedVariables false
set_option linter.unusedSimpArgs false
attribute [local go_sem] max2_int min2_int max_two min_two max_three min_three max_four min_four Go.Proofs.Aid.cell_set_row
set_option maxRecDepth 100000 in
set_option maxHeartbeats 2000000 in
theorem insert_end_calls (base : Nat) (Av : Option Addr) (cv : Nat) (l : List S55) (A3 : Option Addr) (c3 : Nat) (x : S55) (w : World) (hR : k55.R 55 w base (fun _ => True) (.slice Av l.length cv) l) (hb : base ≤ w.heap.size) (hc : l.length ≤ cv) (hC : Kd.C k55 w A3 1 [x]) (hl : l.length ≤ 1048576) :
    Calls Try.prog 85 #[.slice Av l.length cv, .int .i64 (l.length : Int), .slice A3 1 c3] w fun e w' => ∃ v, e = .returned v ∧ k55.R 55 w' base (fun _ => True) v (l ++ [x]) ∧ Below base w w' ∧ w.heap.size ≤ w'.heap.size := by
  have HR := Lib.hid hR
  have HC := Lib.hid hC
  clear hR hC
  go_enter Try.func85, Try.ntmps85
  go_wp2_with (at_builtin; refine Kd.R_append_rows k55 (Rr := k55.K w) (w0 := w) base (by rfl) (.tmp 23) (.tmp 24) 44 55 (.agg #[(.string ⟨#[]⟩), (.string ⟨#[]⟩), (.string ⟨#[]⟩)]) 48 rfl Try.underlying44 info55 rfl (by decide) (by omega) (.slice Av l.length cv) l [x] A3 1 c3 (fun _ => True) (fun _ => False) rfl rfl HR.out HC.out ?aM (fun _ hk => hk.elim) (fun _ _ => trivial) (Below.refl _ _) hb ?aL ?_)
  all_goals first
    | (intro y cs hk; obtain rfl := k55_open hk; exact k55_mkM _ _ _ y)
    | omega
    | (intro v1 w1 hr hb1 hg hat
       go_wp2
       go_ret
       exact ⟨_, rfl, hr, hb1, hg.size⟩)
set_option maxRecDepth 100000 in
set_option maxHeartbeats 4000000 in
/-- slices.Replace(s, n, n, x). -/
theorem replace_end_calls (base : Nat) (Av : Option Addr) (cv : Nat) (l : List S55) (A3 : Option Addr) (c3 : Nat) (x : S55) (w : World) (hR : k55.R 55 w base (fun _ => True) (.slice Av l.length cv) l) (hb : base ≤ w.heap.size) (hc : l.length ≤ cv) (hC : Kd.C k55 w A3 1 [x]) (hl : l.length ≤ 1048576) :
    Calls Try.prog 67 #[.slice Av l.length cv, .int .i64 (l.length : Int), .int .i64 (l.length : Int), .slice A3 1 c3] w fun e w' => ∃ v, e = .returned v ∧ k55.R 55 w' base (fun _ => True) v (l ++ [x]) ∧ Below base w w' ∧ w.heap.size ≤ w'.heap.size := by
  have HR := Lib.hid hR
  have HC := Lib.hid hC
  clear hR hC
  go_enter Try.func67, Try.ntmps67
  go_wp2_with fail
  · have hh : cv = l.length := by assumption
    have HR1 : k55.R 55 w base (fun _ => True) (.slice Av l.length l.length) l := by
      have := HR.out
      rw [hh] at this
      exact this
    refine (insert_end_calls base Av l.length l A3 c3 x w HR1 hb (Nat.le_refl _) HC.out hl).mono ?_
    rintro e w1 ⟨v, rfl, hr, hb1, hs⟩
    go_wp2
    go_ret
    exact ⟨_, rfl, hr, hb1, hs⟩
  · refine (insert_end_calls base Av cv l A3 c3 x w HR.out hb hc HC.out hl).mono ?_
    rintro e w1 ⟨v, rfl, hr, hb1, hs⟩
    go_wp2
    go_ret
    exact ⟨_, rfl, hr, hb1, hs⟩
set_option maxRecDepth 100000 in
set_option maxHeartbeats 4000000 in
/-- slices.Replace(s, n - 1, n, x). -/
theorem replace_last_calls (base : Nat) (Av : Option Addr) (cv : Nat) (l : List S55) (k : Nat) (hk : l.length = k + 1) (A3 : Option Addr) (c3 : Nat) (x : S55) (w : World) (hR : k55.R 55 w base (fun _ => True) (.slice Av l.length cv) l) (hb : base ≤ w.heap.size) (hc : l.length ≤ cv) (hC : Kd.C k55 w A3 1 [x]) (hl : l.length ≤ 1048576) :
    Calls Try.prog 67 #[.slice Av l.length cv, .int .i64 (k : Int), .int .i64 ((k : Int) + 1), .slice A3 1 c3] w fun e w' => ∃ v, e = .returned v ∧ k55.R 55 w' base (fun _ => True) v (l.take k ++ [x]) ∧ Below base w w' ∧ w.heap.size ≤ w'.heap.size := by
  have hR2 := Kd.R_take (m := k) hR (by omega)
  have hlt : (l.take k).length = k := by rw [List.length_take]; omega
  have HR := Lib.hid hR2
  have HC := Lib.hid hC
  have HL := Lib.hid hlt
  clear hR hC hR2 hlt
  rw [hk]
  rw [hk] at hc hl
  have hne : ¬ ((k : Int) = (k : Int) + 1) := by omega
  go_enter Try.func67, Try.ntmps67
  go_wp2_with (at_builtin; refine Kd.R_append_rows k55 (Rr := k55.K w) (w0 := w) base (by rfl) (.tmp 32) (.tmp 33) 44 55 (.agg #[(.string ⟨#[]⟩), (.string ⟨#[]⟩), (.string ⟨#[]⟩)]) 48 rfl Try.underlying44 info55 rfl (by decide) (by omega) (.slice Av k cv) (l.take k) [x] A3 1 c3 (fun _ => True) (fun _ => False) rfl rfl HR.out HC.out ?aM (fun _ hk => hk.elim) (fun _ _ => trivial) (Below.refl _ _) hb ?aL ?_)
  all_goals first
    | (intro y cs hk; obtain rfl := k55_open hk; exact k55_mkM _ _ _ y)
    | (rw [HL.out]; omega)
    | (intro v1 w1 hr hb1 hg hat
       obtain ⟨A1, c1, rfl, hc1, _⟩ := Kd.R_reads hr
       have hln : (l.take k ++ [x]).length = k + 1 := by rw [List.length_append, HL.out]; rfl
       rw [hln] at hr hc1 ⊢
       have HR2 := Lib.hid hr
       clear hr
       go_wp2
       go_ret
       exact ⟨_, rfl, HR2.out, hb1, hg.size⟩)
/-- disk.with, at a row's end. -/
def api_File_50.f (l0 : List (S55)) (a1 : Int) (a2 : Int) (l3 : List (S55)) : Option ((List (S55))) :=
  if l0.length ≤ 1048576 ∧ l3.length = 1 then
    if a2 = 0 ∧ a1 = (l0.length : Int) then some (l0 ++ l3)
    else if a2 = 1 ∧ 0 ≤ a1 ∧ a1 + 1 = (l0.length : Int) then some (l0.take a1.toNat ++ l3)
    else none
  else none
set_option maxRecDepth 100000 in
set_option maxHeartbeats 4000000 in
theorem with_calls (A0 : Option Addr) (c0 : Nat) (l0 : List (S55)) (a1 : Int) (a2 : Int) (A3 : Option Addr) (c3 : Nat) (l3 : List (S55)) (r : List (S55)) (w : World) (hC0 : Kd.C k55 w A0 l0.length l0) (hc0 : l0.length ≤ c0) (hC3 : Kd.C k55 w A3 l3.length l3) (h : api_File_50.f l0 a1 a2 l3 = some r) :
    Calls Try.prog 50 #[.slice A0 l0.length c0, .int .i64 a1, .int .i64 a2, .slice A3 l3.length c3] w fun e w' => ∃ v0_ : Value, e = .returned (v0_) ∧ k55.R 55 w' w.heap.size (fun _ => True) v0_ r ∧ Below w.heap.size w w' := by
  unfold api_File_50.f at h
  split at h
  · rename_i hh
    obtain ⟨x, rfl⟩ : ∃ x, l3 = [x] := List.length_eq_one_iff.1 hh.2
    have HC0 := Lib.hid hC0
    have hC3' : Kd.C k55 w A3 1 [x] := hC3
    have HC3 := Lib.hid hC3'
    clear hC0 hC3 hC3'
    obtain ⟨hl, _⟩ := hh
    show Calls Try.prog 50 #[.slice A0 l0.length c0, .int .i64 a1, .int .i64 a2, .slice A3 1 c3] w _
    split at h
    · rename_i h0
      obtain ⟨rfl, rfl⟩ := h0
      simp only [Option.some.injEq] at h
      subst h
      go_enter Try.func50, Try.ntmps50
      go_wp2_with fail
      refine (clone_calls A0 c0 l0 w HC0.out hc0 hl).mono ?_
      rintro e w1 ⟨v, rfl, hR, hb1, hs1⟩
      obtain ⟨Av, cv, rfl, hcv, _⟩ := Kd.R_reads hR
      have HR := Lib.hid hR
      have HC1 := Lib.hid (Kd.C_below HC3.out hb1)
      clear hR
      go_wp2_with fail
      refine (replace_end_calls w.heap.size Av cv l0 A3 c3 x w1 HR.out hs1 hcv HC1.out hl).mono ?_
      rintro e w2 ⟨v, rfl, hr, hb2, hs2⟩
      go_wp2
      go_ret
      exact ⟨_, rfl, hr, hb1.trans hb2⟩
    · split at h
      · rename_i h0
        obtain ⟨rfl, h1, h2⟩ := h0
        simp only [Option.some.injEq] at h
        subst h
        obtain ⟨k, rfl⟩ := Int.eq_ofNat_of_zero_le h1
        have hk : l0.length = k + 1 := by omega
        have hw : wrap64 ((k : Int) + 1) = (k : Int) + 1 := by unfold wrap64; omega
        have HK := Lib.hid hk
        clear hk h2 h1
        rw [Int.toNat_natCast]
        go_enter Try.func50, Try.ntmps50
        go_wp2_with fail
        refine (clone_calls A0 c0 l0 w HC0.out hc0 hl).mono ?_
        rintro e w1 ⟨v, rfl, hR, hb1, hs1⟩
        obtain ⟨Av, cv, rfl, hcv, _⟩ := Kd.R_reads hR
        have HR := Lib.hid hR
        have HC1 := Lib.hid (Kd.C_below HC3.out hb1)
        clear hR
        go_wp2_with fail
        refine (replace_last_calls w.heap.size Av cv l0 k HK.out A3 c3 x w1 HR.out hs1 hcv HC1.out hl).mono ?_
        rintro e w2 ⟨v, rfl, hr, hb2, hs2⟩
        go_wp2
        go_ret
        exact ⟨_, rfl, hr, hb1.trans hb2⟩
      · cases h
  · cases h
theorem api_File_50.calls (P0_ : Nat → Prop) (A0 : Option Addr) (c0 : Nat) (l0 : List (S55)) (a1 : Int) (a2 : Int) (P3_ : Nat → Prop) (A3 : Option Addr) (c3 : Nat) (l3 : List (S55)) (r : List (S55)) (w : World) (hs0 : Kd.V k55 55 w w.heap.size (fun k_ => P0_ k_) (.slice A0 l0.length c0) l0) (hs3 : Kd.V k55 55 w w.heap.size (fun k_ => P3_ k_) (.slice A3 l3.length c3) l3) (h : api_File_50.f l0 a1 a2 l3 = some r) :
    Calls Try.prog 50 #[.slice A0 l0.length c0, .int .i64 a1, .int .i64 a2, .slice A3 l3.length c3] w fun e w' => ∃ v0_ : Value, e = .returned (v0_) ∧ Kd.V k55 55 w' w.heap.size (fun k_ => ((P0_ k_ ∨ P3_ k_) ∨ w.heap.size ≤ k_)) v0_ r ∧ Below w.heap.size w w' := by
  have h0 := Kd.V_at hs0
  have h3 := Kd.V_at hs3
  refine (with_calls A0 c0 l0 a1 a2 A3 c3 l3 r w (Kd.F_now h0.2.2) h0.2.1 (Kd.F_now h3.2.2) h).mono ?_
  rintro e w' ⟨v, rfl, hR, hb⟩
  exact ⟨v, rfl, V_of_R hR (fun k hk => .inr hk), hb⟩
end Go.Proofs.Ytbpobnlkfpjijaa.Pr
