import Derived.Test.YtbpobnlkfpjijaaDoorRKn
/-! Names of ranges tell them apart. -/
namespace Go.Proofs.YtbpobnlkfpjijaaDoorR
open Go.RowKit Go.Shelf Go.Sort
set_option linter.unusedVariables false
set_option linter.unusedSimpArgs false
theorem dd_lt {u : Nat} (h : u < 10) : Lib.decDigits u = [UInt8.ofNat (48 + u)] := by rw [Lib.decDigits, dif_pos h]
theorem dd_ge {u : Nat} (h : ¬ u < 10) : Lib.decDigits u = Lib.decDigits (u / 10) ++ [UInt8.ofNat (48 + u % 10)] := by
  conv => lhs; rw [Lib.decDigits, dif_neg h]
theorem dd_pos (u : Nat) : 0 < (Lib.decDigits u).length := by
  by_cases h : u < 10
  · rw [dd_lt h]; simp
  · rw [dd_ge h]; simp
theorem ofNat_inj {a b : Nat} (ha : a < 256) (hb : b < 256) (h : UInt8.ofNat a = UInt8.ofNat b) : a = b := by
  have := congrArg UInt8.toNat h
  simp [UInt8.toNat_ofNat'] at this
  omega
theorem dd_inj : ∀ (n u v : Nat), u < n → Lib.decDigits u = Lib.decDigits v → u = v
  | 0, u, v, hn, _ => by omega
  | n + 1, u, v, hn, h => by
    by_cases hu : u < 10 <;> by_cases hv : v < 10
    · rw [dd_lt hu, dd_lt hv] at h
      injection h with h
      have := ofNat_inj (by omega) (by omega) h
      omega
    · rw [dd_lt hu, dd_ge hv] at h
      have := congrArg List.length h
      have h2 := dd_pos (v / 10)
      simp only [List.length_append, List.length_singleton] at this
      omega
    · rw [dd_ge hu, dd_lt hv] at h
      have := congrArg List.length h
      have h2 := dd_pos (u / 10)
      simp only [List.length_append, List.length_singleton] at this
      omega
    · rw [dd_ge hu, dd_ge hv] at h
      obtain ⟨h1, h2⟩ := List.append_inj' h rfl
      have h3 := dd_inj n (u / 10) (v / 10) (by omega) h1
      injection h2 with h2
      have := ofNat_inj (by omega) (by omega) h2
      omega
theorem dd_no45 : ∀ (n u : Nat), u < n → (45 : UInt8) ∉ Lib.decDigits u
  | 0, u, hn => by omega
  | n + 1, u, hn => by
    have hd : ∀ k, k < 10 → (45 : UInt8) ≠ UInt8.ofNat (48 + k) := by
      intro k hk he
      have := congrArg UInt8.toNat he
      simp [UInt8.toNat_ofNat'] at this
      omega
    by_cases h : u < 10
    · rw [dd_lt h]
      simp only [List.mem_singleton]
      exact hd u h
    · rw [dd_ge h]
      intro hm
      rcases List.mem_append.1 hm with hm | hm
      · exact dd_no45 n (u / 10) (by omega) hm
      · simp only [List.mem_singleton] at hm
        exact hd _ (by omega) hm
theorem cut45 : ∀ (a b r s : List UInt8), (45 : UInt8) ∉ a → (45 : UInt8) ∉ b → a ++ 45 :: r = b ++ 45 :: s → a = b ∧ r = s
  | [], [], r, s, _, _, h => by simpa using h
  | [], y :: b, r, s, _, hb, h => by
    simp at h
    exact absurd (by rw [h.1]; simp) hb
  | x :: a, [], r, s, ha, _, h => by
    simp at h
    exact absurd (by rw [← h.1]; simp) ha
  | x :: a, y :: b, r, s, ha, hb, h => by
    simp at h
    obtain ⟨h1, h2⟩ := cut45 a b r s (fun hm => ha (by simp [hm])) (fun hm => hb (by simp [hm])) h.2
    exact ⟨by rw [h.1, h1], h2⟩
theorem itoa_dd {n : Int} (h : 0 ≤ n) : Lib.itoa n = Lib.decDigits n.toNat := by unfold Lib.itoa; rw [if_neg (by omega)]
theorem nameL_inj {a b c d : Int} (ha : 0 ≤ a) (hb : 0 ≤ b) (hc : 0 ≤ c) (hd : 0 ≤ d) (h : nameL a b = nameL c d) : a = c ∧ b = d := by
  unfold nameL at h
  rw [itoa_dd ha, itoa_dd hb, itoa_dd hc, itoa_dd hd] at h
  simp only [List.cons_append, List.nil_append, List.cons.injEq, true_and] at h
  obtain ⟨h1, h2⟩ := cut45 _ _ _ _ (dd_no45 _ _ (Nat.lt_succ_self _)) (dd_no45 _ _ (Nat.lt_succ_self _)) h
  have e1 := dd_inj _ _ _ (Nat.lt_succ_self _) h1
  have e2 := dd_inj _ _ _ (Nat.lt_succ_self _) h2
  omega
theorem nameS_toList (a b : Int) : (nameS a b).toList = nameL a b := by rw [ByteArray.toList_eq]; simp [nameS]
theorem name816 : nameS 8 16 = ⟨#[99, 56, 45, 49, 54]⟩ := by
  have h : nameL 8 16 = [99, 56, 45, 49, 54] := by
    unfold nameL
    rw [itoa_dd (by decide), itoa_dd (by decide)]
    have e1 : Lib.decDigits (8 : Int).toNat = [56] := by rw [dd_lt (by decide)]; rfl
    have e2 : Lib.decDigits (16 : Int).toNat = [49, 54] := by rw [dd_ge (by decide), dd_lt (by decide)]; rfl
    rw [e1, e2]
    rfl
  unfold nameS
  rw [h]
set_option maxHeartbeats 1000000 in
theorem shown_calls (w : World) (ht : Tb w) : Calls Tryd.prog 5 #[] w fun e w' => e = .returned (.bool true) ∧ Below w.heap.size w w' := by
  go_enter Tryd.func5, Tryd.ntmps5
  go_wp2_with fail
  refine (name_calls 8 16 (by decide) (by decide) (by decide) (by decide) _ ht).mono ?_
  rw [name816]
  rintro e w' ⟨rfl, hb⟩
  go_wp2
  go_ret
  exact ⟨by first | rfl | simp [ByteArray.toList_eq], hb⟩
theorem nameS_size (a b : Int) : 0 < (nameS a b).size := by
  show 0 < (nameS a b).data.size
  simp [nameS, nameL]
theorem hold2_step {a b c d : Int} {w W W1 : World} (h : W.cell? ⟨w.heap.size, 0, none⟩ = some (.int .i64 a) ∧ W.cell? ⟨w.heap.size, 1, none⟩ = some (.int .i64 b) ∧ W.cell? ⟨w.heap.size + 1, 0, none⟩ = some (.int .i64 c) ∧ W.cell? ⟨w.heap.size + 1, 1, none⟩ = some (.int .i64 d) ∧ Tb W ∧ Below w.heap.size w W) (hb : Below W.heap.size W W1) :
    W1.cell? ⟨w.heap.size, 0, none⟩ = some (.int .i64 a) ∧ W1.cell? ⟨w.heap.size, 1, none⟩ = some (.int .i64 b) ∧ W1.cell? ⟨w.heap.size + 1, 0, none⟩ = some (.int .i64 c) ∧ W1.cell? ⟨w.heap.size + 1, 1, none⟩ = some (.int .i64 d) ∧ Tb W1 ∧ Below w.heap.size w W1 := by
  obtain ⟨h1, h2, h3, h4, h5, h6⟩ := h
  exact ⟨(hb.cell (World.block_lt_of_cell? W _ h1)).trans h1, (hb.cell (World.block_lt_of_cell? W _ h2)).trans h2, (hb.cell (World.block_lt_of_cell? W _ h3)).trans h3, (hb.cell (World.block_lt_of_cell? W _ h4)).trans h4, tb_below h5 hb, h6.trans (hb.mono h6.size)⟩
theorem hold2_tb {p q r s t : Prop} {W : World} (h : p ∧ q ∧ r ∧ s ∧ Tb W ∧ t) : Tb W := h.2.2.2.2.1
theorem hold2_bel {p q r s t : Prop} {B : Nat} {w W : World} (h : p ∧ q ∧ r ∧ s ∧ t ∧ Below B w W) : Below B w W := h.2.2.2.2.2
set_option maxRecDepth 100000 in
set_option maxHeartbeats 4000000 in
theorem order_calls (a b c d : Int) (ha : -9223372036854775808 ≤ a ∧ a ≤ 9223372036854775807) (hb : -9223372036854775808 ≤ b ∧ b ≤ 9223372036854775807) (hc : -9223372036854775808 ≤ c ∧ c ≤ 9223372036854775807) (hd : -9223372036854775808 ≤ d ∧ d ≤ 9223372036854775807) (w : World) (ht : Tb w) :
    Calls Tryd.prog 3 #[.agg #[.int .i64 a, .int .i64 b], .agg #[.int .i64 c, .int .i64 d]] w fun e w' => e = .returned (.bool true) ∧ Below w.heap.size w w' := by
  obtain ⟨W, hW⟩ : ∃ W, (w.alloc (.cells #[.int .i64 a, .int .i64 b] 23)).alloc (.cells #[.int .i64 c, .int .i64 d] 23) = W := ⟨_, rfl⟩
  have hB0 : Below w.heap.size w W := by rw [← hW]; exact ((Below.refl _ _).alloc (Nat.le_refl _) _).alloc (by simp) _
  have hc0 : W.cell? ⟨w.heap.size, 0, none⟩ = some (.int .i64 a) := by subst hW; go_simp
  have hc1 : W.cell? ⟨w.heap.size, 1, none⟩ = some (.int .i64 b) := by subst hW; go_simp
  have hc2 : W.cell? ⟨w.heap.size + 1, 0, none⟩ = some (.int .i64 c) := by subst hW; go_simp
  have hc3 : W.cell? ⟨w.heap.size + 1, 1, none⟩ = some (.int .i64 d) := by subst hW; go_simp
  have hT := tb_below ht hB0
  by_cases ha0 : a < 0
  · go_enter Tryd.func3, Tryd.ntmps3
    go_wp2_with fail
    clear hW
    refine (shown_calls W hT).mono ?_
    rintro e w1 ⟨rfl, hb1⟩
    have hq0 := (hb1.cell (World.block_lt_of_cell? _ _ hc0)).trans hc0
    have hBe := Lib.hid (hB0.trans (hb1.mono hB0.size))
    clear hb1 hB0
    go_wp2
    go_ret
    exact ⟨rfl, hBe.out⟩
  · by_cases hb0 : b < 0
    · go_enter Tryd.func3, Tryd.ntmps3
      go_wp2_with fail
      clear hW
      refine (shown_calls W hT).mono ?_
      rintro e w1 ⟨rfl, hb1⟩
      have hq0 := (hb1.cell (World.block_lt_of_cell? _ _ hc0)).trans hc0
      have hq1 := (hb1.cell (World.block_lt_of_cell? _ _ hc1)).trans hc1
      have hBe := Lib.hid (hB0.trans (hb1.mono hB0.size))
      clear hb1 hB0
      go_wp2
      go_ret
      exact ⟨rfl, hBe.out⟩
    · by_cases hcc : c < 0
      · go_enter Tryd.func3, Tryd.ntmps3
        go_wp2_with fail
        clear hW
        refine (shown_calls W hT).mono ?_
        rintro e w1 ⟨rfl, hb1⟩
        have hq0 := (hb1.cell (World.block_lt_of_cell? _ _ hc0)).trans hc0
        have hq1 := (hb1.cell (World.block_lt_of_cell? _ _ hc1)).trans hc1
        have hq2 := (hb1.cell (World.block_lt_of_cell? _ _ hc2)).trans hc2
        have hBe := Lib.hid (hB0.trans (hb1.mono hB0.size))
        clear hb1 hB0
        go_wp2
        go_ret
        exact ⟨rfl, hBe.out⟩
      · by_cases hdd : d < 0
        · go_enter Tryd.func3, Tryd.ntmps3
          go_wp2_with fail
          clear hW
          refine (shown_calls W hT).mono ?_
          rintro e w1 ⟨rfl, hb1⟩
          have hq0 := (hb1.cell (World.block_lt_of_cell? _ _ hc0)).trans hc0
          have hq1 := (hb1.cell (World.block_lt_of_cell? _ _ hc1)).trans hc1
          have hq2 := (hb1.cell (World.block_lt_of_cell? _ _ hc2)).trans hc2
          have hq3 := (hb1.cell (World.block_lt_of_cell? _ _ hc3)).trans hc3
          have hBe := Lib.hid (hB0.trans (hb1.mono hB0.size))
          clear hb1 hB0
          go_wp2
          go_ret
          exact ⟨rfl, hBe.out⟩
        · have hq1 : 0 ≤ a := by omega
          have hq2 : 0 ≤ b := by omega
          have hq3 : 0 ≤ c := by omega
          have hq4 : 0 ≤ d := by omega
          have hz1 : 0 < (nameS a b).size := nameS_size a b
          have hz2 : (0 : Int) < ((nameS a b).size : Int) := by omega
          have hz3 : ((nameS a b)[0]'hz1).toNat = 99 := rfl
          by_cases he : a = c ∧ b = d
          · obtain ⟨rfl, rfl⟩ := he
            go_enter Tryd.func3, Tryd.ntmps3
            go_wp2_with fail
            clear hW
            refine (shown_calls W hT).mono ?_
            rintro e w1 ⟨rfl, hb1⟩
            have hS := hold2_step ⟨hc0, hc1, hc2, hc3, hT, hB0⟩ hb1
            obtain ⟨e0, e1, e2, e3, e4, e5⟩ := hS
            clear hb1 hB0 hc0 hc1 hc2 hc3 hT
            go_wp2_with fail
            go_region_held3 (fun w' => w'.cell? ⟨w.heap.size, 0, none⟩ = some (.int .i64 a) ∧ w'.cell? ⟨w.heap.size, 1, none⟩ = some (.int .i64 b) ∧ w'.cell? ⟨w.heap.size + 1, 0, none⟩ = some (.int .i64 a) ∧ w'.cell? ⟨w.heap.size + 1, 1, none⟩ = some (.int .i64 b) ∧ Tb w' ∧ Below w.heap.size w w')
              (first | exact ⟨e0, e1, e2, e3, e4, e5.drew⟩ | assumption | exact hold2_step (by assumption) hb)
              (first | (go_at_call 6; refine (name_calls _ _ (by omega) (by omega) (by omega) (by omega) _ (by first | assumption | exact hold2_tb (by assumption))).mono ?_; rintro e w2 ⟨rfl, hb⟩))
            all_goals
              go_wp2
              go_ret
              exact ⟨rfl, hold2_bel (by assumption)⟩
          · have hne : ((nameS a b).toList == (nameS c d).toList) = false := by
              rw [beq_eq_false_iff_ne, nameS_toList, nameS_toList]
              exact fun h => he (nameL_inj hq1 hq2 hq3 hq4 h)
            by_cases hac : a = c
            · subst hac
              have hbd : ¬ b = d := fun h => he ⟨rfl, h⟩
              clear he
              go_enter Tryd.func3, Tryd.ntmps3
              go_wp2_with fail
              clear hW
              refine (shown_calls W hT).mono ?_
              rintro e w1 ⟨rfl, hb1⟩
              have hS := hold2_step ⟨hc0, hc1, hc2, hc3, hT, hB0⟩ hb1
              obtain ⟨e0, e1, e2, e3, e4, e5⟩ := hS
              clear hb1 hB0 hc0 hc1 hc2 hc3 hT
              go_wp2_with fail
              go_region_held3 (fun w' => w'.cell? ⟨w.heap.size, 0, none⟩ = some (.int .i64 a) ∧ w'.cell? ⟨w.heap.size, 1, none⟩ = some (.int .i64 b) ∧ w'.cell? ⟨w.heap.size + 1, 0, none⟩ = some (.int .i64 a) ∧ w'.cell? ⟨w.heap.size + 1, 1, none⟩ = some (.int .i64 d) ∧ Tb w' ∧ Below w.heap.size w w')
                (first | exact ⟨e0, e1, e2, e3, e4, e5.drew⟩ | assumption | exact hold2_step (by assumption) hb)
                (first | (go_at_call 6; refine (name_calls _ _ (by omega) (by omega) (by omega) (by omega) _ (by first | assumption | exact hold2_tb (by assumption))).mono ?_; rintro e w2 ⟨rfl, hb⟩))
              all_goals
                go_wp2
                go_ret
                exact ⟨rfl, hold2_bel (by assumption)⟩
            · clear he
              go_enter Tryd.func3, Tryd.ntmps3
              go_wp2_with fail
              clear hW
              refine (shown_calls W hT).mono ?_
              rintro e w1 ⟨rfl, hb1⟩
              have hS := hold2_step ⟨hc0, hc1, hc2, hc3, hT, hB0⟩ hb1
              obtain ⟨e0, e1, e2, e3, e4, e5⟩ := hS
              clear hb1 hB0 hc0 hc1 hc2 hc3 hT
              go_wp2_with fail
              go_region_held3 (fun w' => w'.cell? ⟨w.heap.size, 0, none⟩ = some (.int .i64 a) ∧ w'.cell? ⟨w.heap.size, 1, none⟩ = some (.int .i64 b) ∧ w'.cell? ⟨w.heap.size + 1, 0, none⟩ = some (.int .i64 c) ∧ w'.cell? ⟨w.heap.size + 1, 1, none⟩ = some (.int .i64 d) ∧ Tb w' ∧ Below w.heap.size w w')
                (first | exact ⟨e0, e1, e2, e3, e4, e5.drew⟩ | assumption | exact hold2_step (by assumption) hb)
                (first | (go_at_call 6; refine (name_calls _ _ (by omega) (by omega) (by omega) (by omega) _ (by first | assumption | exact hold2_tb (by assumption))).mono ?_; rintro e w2 ⟨rfl, hb⟩))
              all_goals
                go_wp2
                go_ret
                exact ⟨rfl, hold2_bel (by assumption)⟩
end Go.Proofs.YtbpobnlkfpjijaaDoorR
