import Derived.Test.YtbpobnlkfpjijaaGf3
/-! disk.with: a row with another one at a place, in the place of none or one; or with one left out. -/
namespace Go.Proofs.Ytbpobnlkfpjijaa.Pr
open Go.RowKit Go.Proofs.YtbpobnlkfpjijaaW.PrintWords Go.Proofs.YtbpobnlkfpjijaaW.PrintLast Go.Proofs.YtbpobnlkfpjijaaW.PrintMore
set_option linter.unusedVariables false
set_option linter.unusedSimpArgs false
attribute [local go_sem] max2_int min2_int max_two min_two max_three min_three max_four min_four Go.Proofs.Aid.cell_set_row
set_option maxRecDepth 100000 in
set_option maxHeartbeats 4000000 in
/-- slices.Replace(s, i, i, x), i < n. -/
theorem replace_ins_calls (base g cv : Nat) (l : List S55) (i : Nat) (hi : i < l.length) (ad : Addr) (c3 : Nat) (x : S55) (w : World) (hR : k55.R 55 w base (fun _ => True) (.slice (some ⟨g, 0, none⟩) l.length cv) l) (hb : base ≤ w.heap.size) (hC : ∀ j v, (enc55 x)[j]? = some v → w.cell? (ad.add j) = some v) (had : ad.block < base) (hl : l.length ≤ 1048576) :
    Calls Try.prog 67 #[.slice (some ⟨g, 0, none⟩) l.length cv, .int .i64 (i : Int), .int .i64 (i : Int), .slice (some ad) 1 c3] w fun e w' => ∃ v, e = .returned v ∧ k55.R 55 w' base (fun _ => True) v (l.take i ++ x :: l.drop i) ∧ Below base w w' ∧ w.heap.size ≤ w'.heap.size := by
  have hins : Calls Try.prog 85 #[.slice (some ⟨g, 0, none⟩) l.length cv, .int .i64 (i : Int), .slice (some ad) 1 c3] w fun e w' => ∃ v, e = .returned v ∧ k55.R 55 w' base (fun _ => True) v (l.take i ++ x :: l.drop i) ∧ Below base w w' ∧ w.heap.size ≤ w'.heap.size := by
    rcases Nat.lt_or_ge cv (l.length + 1) with h | h
    · exact insert_grow_calls base g cv l i hi ad c3 x w hR hb h hC (by omega) hl
    · exact insert_room_calls base g cv l i hi ad c3 x w hR hb h hC had hl
  obtain ⟨_, hbg, hgs, hncv, hcm, _⟩ := R_open55 hR
  have hc63 : cv ≤ 9223372036854775807 := by unfold maxLen at hcm; omega
  have hb2 : ¬ cv = i := by omega
  have hb3 : (i : Int) ≤ (l.length : Int) := by omega
  have hb4 : (i : Int) ≤ (cv : Int) := by omega
  have HI := Lib.hid hins
  clear hins hR hC
  go_enter Try.func67, Try.ntmps67
  go_wp2_with fail
  refine HI.out.mono ?_
  rintro e w1 ⟨v, rfl, hr, hb1, hs⟩
  go_wp2
  go_ret
  exact ⟨_, rfl, hr, hb1, hs⟩
/-- slices.Replace as disk.with calls it. -/
theorem replace_calls (base : Nat) (Av : Option Addr) (cv : Nat) (l0 : List S55) (i many : Nat) (A3 : Option Addr) (c3 : Nat) (l3 : List S55) (w0 w : World) (hR : k55.R 55 w base (fun _ => True) (.slice Av l0.length cv) l0) (hb0 : base = w0.heap.size) (hB : Below base w0 w) (hb : base ≤ w.heap.size) (hc : l0.length ≤ cv) (hC : Kd.C k55 w0 A3 l3.length l3) (hl : l0.length ≤ 1048576)
    (h : (many = 0 ∧ i ≤ l0.length ∧ l3.length = 1) ∨ (many = 1 ∧ i + 1 ≤ l0.length ∧ l3.length ≤ 1)) :
    Calls Try.prog 67 #[.slice Av l0.length cv, .int .i64 (i : Int), .int .i64 ((i : Int) + (many : Int)), .slice A3 l3.length c3] w fun e w' => ∃ v, e = .returned v ∧ k55.R 55 w' base (fun _ => True) v (l0.take i ++ (l3 ++ l0.drop (i + many))) ∧ Below base w w' ∧ w.heap.size ≤ w'.heap.size := by
  subst hb0
  have hC1 : Kd.C k55 w A3 l3.length l3 := Kd.C_below hC hB
  have one : ∀ x, l3 = [x] → ∃ ad, A3 = some ad ∧ ad.block < w0.heap.size ∧ ∀ j v, (enc55 x)[j]? = some v → w.cell? (ad.add j) = some v := by
    intro x hx
    subst hx
    obtain ⟨ad, he, hcv⟩ := C_one55 hC
    have hbl : ∀ j, (ad.add j).block = ad.block := fun j => by unfold Addr.add; split <;> rfl
    have hlt : ad.block < w0.heap.size := by have := World.block_lt_of_cell? w0 _ (hcv 0 _ rfl); rwa [hbl] at this
    exact ⟨ad, he, hlt, fun j v hj => (hB.cell (by rw [hbl]; exact hlt)).trans (hcv j v hj)⟩
  have head : 0 < l0.length → ∃ g, Av = some ⟨g, 0, none⟩ := by
    intro hp
    obtain ⟨_, inner, ho, _⟩ := hR
    rcases ho.2 with ⟨he, hz⟩ | ⟨g, cap, cur, he, _⟩
    · omega
    · injection he with he _ _; exact ⟨g, he⟩
  rcases h with ⟨rfl, hi, h3⟩ | ⟨rfl, hi, h3⟩
  · obtain ⟨x, rfl⟩ := List.length_eq_one_iff.1 h3
    rw [show (i : Int) + ((0 : Nat) : Int) = (i : Int) by omega, Nat.add_zero]
    rcases Nat.lt_or_ge i l0.length with hlt | hge
    · obtain ⟨g, rfl⟩ := head (by omega)
      obtain ⟨ad, rfl, had, hcv⟩ := one x rfl
      exact replace_ins_calls _ g cv l0 i hlt ad c3 x w hR hb hcv had hl
    · obtain rfl : i = l0.length := by omega
      rw [List.take_length, List.drop_length]
      exact replace_end_calls _ Av cv l0 A3 c3 x w hR hb hc hC1 hl
  · obtain ⟨g, rfl⟩ := head (by omega)
    rw [show (i : Int) + ((1 : Nat) : Int) = (i : Int) + 1 by omega]
    rcases Nat.lt_or_ge (i + 1) l0.length with hlt | hge
    · rcases l3 with _ | ⟨x, l3⟩
      · exact replace_out_calls _ g cv l0 i hlt A3 c3 w hR hb hl
      · obtain rfl : l3 = [] := by cases l3 with
          | nil => rfl
          | cons y l3 => simp at h3
        obtain ⟨ad, rfl, had, hcv⟩ := one x rfl
        exact replace_mid_calls _ g cv l0 i hlt ad c3 x w hR hb hcv had hl
    · have hk : l0.length = i + 1 := by omega
      rcases l3 with _ | ⟨x, l3⟩
      · rw [List.nil_append, ← hk, List.drop_length, List.append_nil]
        exact replace_last_out_calls _ g cv l0 i hk A3 c3 w hR hb hl
      · obtain rfl : l3 = [] := by cases l3 with
          | nil => rfl
          | cons y l3 => simp at h3
        rw [← hk, List.drop_length, List.append_nil]
        exact replace_last_calls _ _ cv l0 i hk A3 c3 x w hR hb hc hC1 hl
/-- disk.with. -/
def api_File_50.f (l0 : List (S55)) (a1 : Int) (a2 : Int) (l3 : List (S55)) : Option ((List (S55))) :=
  if l0.length ≤ 1048576 ∧ 0 ≤ a1 ∧ ((a2 = 0 ∧ a1 ≤ (l0.length : Int) ∧ l3.length = 1) ∨ (a2 = 1 ∧ a1 + 1 ≤ (l0.length : Int) ∧ l3.length ≤ 1)) then some (l0.take a1.toNat ++ (l3 ++ l0.drop (a1 + a2).toNat)) else none
set_option maxRecDepth 100000 in
set_option maxHeartbeats 4000000 in
theorem with_calls (A0 : Option Addr) (c0 : Nat) (l0 : List (S55)) (i many : Nat) (A3 : Option Addr) (c3 : Nat) (l3 : List (S55)) (w : World) (hC0 : Kd.C k55 w A0 l0.length l0) (hc0 : l0.length ≤ c0) (hC3 : Kd.C k55 w A3 l3.length l3) (hl : l0.length ≤ 1048576)
    (h : (many = 0 ∧ i ≤ l0.length ∧ l3.length = 1) ∨ (many = 1 ∧ i + 1 ≤ l0.length ∧ l3.length ≤ 1)) :
    Calls Try.prog 50 #[.slice A0 l0.length c0, .int .i64 (i : Int), .int .i64 (many : Int), .slice A3 l3.length c3] w fun e w' => ∃ v0_ : Value, e = .returned (v0_) ∧ k55.R 55 w' w.heap.size (fun _ => True) v0_ (l0.take i ++ (l3 ++ l0.drop (i + many))) ∧ Below w.heap.size w w' := by
  have HC0 := Lib.hid hC0
  have HC3 := Lib.hid hC3
  have HH := Lib.hid h
  have hi : i ≤ 1048576 := by omega
  have hm : many ≤ 1 := by omega
  have hw : IntKind.i64.wrap ((i : Int) + (many : Int)) = (i : Int) + (many : Int) := by rw [IntKind.wrap_i64]; omega
  have hw1 : (0 : Int) ≤ (i : Int) + (many : Int) := by omega
  clear hC0 hC3 h
  go_enter Try.func50, Try.ntmps50
  go_wp2_with fail
  refine (clone_calls A0 c0 l0 w HC0.out hc0 hl).mono ?_
  rintro e w1 ⟨v, rfl, hR, hb1, hs1⟩
  obtain ⟨Av, cv, rfl, hcv, _⟩ := Kd.R_reads hR
  have HR := Lib.hid hR
  clear hR
  go_wp2_with fail
  refine (replace_calls w.heap.size Av cv l0 i many A3 c3 l3 w w1 HR.out rfl hb1 hs1 hcv HC3.out hl HH.out).mono ?_
  rintro e w2 ⟨v, rfl, hr, hb2, hs2⟩
  go_wp2
  go_ret
  exact ⟨_, rfl, hr, hb1.trans hb2⟩
theorem api_File_50.calls (P0_ : Nat → Prop) (A0 : Option Addr) (c0 : Nat) (l0 : List (S55)) (a1 : Int) (a2 : Int) (P3_ : Nat → Prop) (A3 : Option Addr) (c3 : Nat) (l3 : List (S55)) (r : List (S55)) (w : World) (hs0 : Kd.V k55 55 w w.heap.size (fun k_ => P0_ k_) (.slice A0 l0.length c0) l0) (hs3 : Kd.V k55 55 w w.heap.size (fun k_ => P3_ k_) (.slice A3 l3.length c3) l3) (h : api_File_50.f l0 a1 a2 l3 = some r) :
    Calls Try.prog 50 #[.slice A0 l0.length c0, .int .i64 a1, .int .i64 a2, .slice A3 l3.length c3] w fun e w' => ∃ v0_ : Value, e = .returned (v0_) ∧ Kd.V k55 55 w' w.heap.size (fun k_ => ((P0_ k_ ∨ P3_ k_) ∨ w.heap.size ≤ k_)) v0_ r ∧ Below w.heap.size w w' := by
  have h0 := Kd.V_at hs0
  have h3 := Kd.V_at hs3
  unfold api_File_50.f at h
  split at h
  · rename_i hh
    obtain ⟨hl, h1, hc⟩ := hh
    simp only [Option.some.injEq] at h
    subst h
    obtain ⟨i, rfl⟩ := Int.eq_ofNat_of_zero_le h1
    obtain ⟨many, rfl⟩ := Int.eq_ofNat_of_zero_le (show 0 ≤ a2 by omega)
    rw [Int.toNat_natCast, show ((i : Int) + (many : Int)).toNat = i + many by omega]
    refine (with_calls A0 c0 l0 i many A3 c3 l3 w (Kd.F_now h0.2.2) h0.2.1 (Kd.F_now h3.2.2) hl (by omega)).mono ?_
    rintro e w' ⟨v, rfl, hR, hb⟩
    exact ⟨v, rfl, V_of_R hR (fun k hk => .inr hk), hb⟩
  · cases h
end Go.Proofs.Ytbpobnlkfpjijaa.Pr
