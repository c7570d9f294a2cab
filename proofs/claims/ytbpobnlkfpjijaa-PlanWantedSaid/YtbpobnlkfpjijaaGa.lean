import Derived.Test.YtbpobnlkfpjijaaPr0
import Derived.Laws.Externs
/-! word.Add, word.Sub. -/
namespace Go.Proofs.Ytbpobnlkfpjijaa.Pr
open Go.RowKit Go.Proofs.YtbpobnlkfpjijaaW.PrintWords Go.Proofs.YtbpobnlkfpjijaaW.PrintLast Go.Proofs.YtbpobnlkfpjijaaW.PrintMore
set_option linter.unusedVariables false
set_option linter.unusedSimpArgs false
attribute [local go_sem] max2_int min2_int max_two min_two max_three min_three max_four min_four
def word_Add.f (a0 : Int) (a1 : Int) (a2 : Int) : Option (Int × Int) :=
  if 0 ≤ a0 ∧ 0 ≤ a1 ∧ 0 ≤ a2 then some ((a0 + a1 + mn a2 1) % 18446744073709551616, (a0 + a1 + mn a2 1) / 18446744073709551616) else none
theorem add64_run (x y c : Int) (hx : 0 ≤ x) (hy : 0 ≤ y) (hc0 : 0 ≤ c) (hc : c ≤ 1) (W : World) :
    (callFunc 100 #[.int .u64 x, .int .u64 y, .int .u64 c]).run Try.prog W =
      .ok (.value (.tuple #[.int .u64 ((x + y + c) % 18446744073709551616), .int .u64 ((x + y + c) / 18446744073709551616)])) W := by
  rw [run_callFunc_extern Try.func100 (by kernel_rfl) (by kernel_rfl) (by kernel_rfl) (e := add64Entry) (by kernel_rfl), run_add64 x y c hx hy hc0 hc]
  rfl
theorem word_Add.calls (a0 : Int) (a1 : Int) (a2 : Int) (r1 : Int) (r2 : Int) (w : World) (h : word_Add.f a0 a1 a2 = some (r1, r2)) :
    Calls Try.prog 75 #[.int .u64 a0, .int .u64 a1, .int .u64 a2] w fun e w' => e = .returned (.tuple #[.int .u64 r1, .int .u64 r2]) ∧ Below w.heap.size w w' := by
  unfold word_Add.f at h
  split at h
  · rename_i hc
    simp only [Option.some.injEq, Prod.mk.injEq] at h
    obtain ⟨h1, h2⟩ := h
    obtain ⟨j, hj⟩ : ∃ j, mn a2 1 = j := ⟨_, rfl⟩
    rw [hj] at h1 h2
    have hj0 : 0 ≤ j := by rw [← hj]; unfold mn; split <;> omega
    have hj1 : j ≤ 1 := by rw [← hj]; unfold mn; split <;> omega
    have hj_ : (if 1 < a2 then 1 else a2) = j := hj
    have kb := add64_run a0 a1 j hc.1 hc.2.1 hj0 hj1
    rw [h1, h2] at kb
    clear h1 h2 hj
    go_enter Try.func75, Try.ntmps75
    go_wp2
    go_ret2
    exact ⟨rfl, Below.refl _ _⟩
  · cases h
def word_Sub.f (a0 : Int) (a1 : Int) (a2 : Int) : Option (Int × Int) :=
  if 0 ≤ a0 ∧ 0 ≤ a1 ∧ 0 ≤ a2 then some ((((a0.toNat + 18446744073709551616 - a1.toNat - (mn a2 1).toNat) % 18446744073709551616 : Nat) : Int), if a0 < a1 + mn a2 1 then 1 else 0) else none
def sub64E : Array Value → Sem Value := fun args => do
  let (x, y, b) ← Extern.MathBitsCarry.three "Sub64" args
  pure (Extern.MathBitsCarry.pair ((x + Extern.MathBitsCarry.m64 - y - b) % Extern.MathBitsCarry.m64) (if x < y + b then 1 else 0))
theorem sub64E_run {P : Program} (x y b : Nat) (hb : b ≤ 1) (w : World) :
    (sub64E #[.int .u64 x, .int .u64 y, .int .u64 b]).run P w =
      .ok (.tuple #[.int .u64 (((x + 18446744073709551616 - y - b) % 18446744073709551616 : Nat) : Int), .int .u64 ((if x < y + b then 1 else 0 : Nat) : Int)]) w := by
  have : b = 0 ∨ b = 1 := by omega
  rcases this with rfl | rfl <;> rfl
theorem sub64_run (x y c : Int) (hx : 0 ≤ x) (hy : 0 ≤ y) (hc0 : 0 ≤ c) (hc : c ≤ 1) (W : World) :
    (callFunc 107 #[.int .u64 x, .int .u64 y, .int .u64 c]).run Try.prog W =
      .ok (.value (.tuple #[.int .u64 (((x.toNat + 18446744073709551616 - y.toNat - c.toNat) % 18446744073709551616 : Nat) : Int), .int .u64 (if x < y + c then 1 else 0)])) W := by
  obtain ⟨X, rfl⟩ := Int.eq_ofNat_of_zero_le hx
  obtain ⟨Y, rfl⟩ := Int.eq_ofNat_of_zero_le hy
  obtain ⟨C, rfl⟩ := Int.eq_ofNat_of_zero_le hc0
  rw [run_callFunc_extern Try.func107 (by kernel_rfl) (by kernel_rfl) (by kernel_rfl) (e := sub64E) (by kernel_rfl), sub64E_run X Y C (by omega)]
  simp only [Result.andThen, Int.toNat_natCast]
  by_cases h : X < Y + C
  · rw [if_pos h, if_pos (by omega)]; rfl
  · rw [if_neg h, if_neg (by omega)]; rfl
theorem word_Sub.calls (a0 : Int) (a1 : Int) (a2 : Int) (r1 : Int) (r2 : Int) (w : World) (h : word_Sub.f a0 a1 a2 = some (r1, r2)) :
    Calls Try.prog 103 #[.int .u64 a0, .int .u64 a1, .int .u64 a2] w fun e w' => e = .returned (.tuple #[.int .u64 r1, .int .u64 r2]) ∧ Below w.heap.size w w' := by
  unfold word_Sub.f at h
  split at h
  · rename_i hc
    simp only [Option.some.injEq, Prod.mk.injEq] at h
    obtain ⟨h1, h2⟩ := h
    obtain ⟨j, hj⟩ : ∃ j, mn a2 1 = j := ⟨_, rfl⟩
    rw [hj] at h1 h2
    have hj0 : 0 ≤ j := by rw [← hj]; unfold mn; split <;> omega
    have hj1 : j ≤ 1 := by rw [← hj]; unfold mn; split <;> omega
    have hj_ : (if 1 < a2 then 1 else a2) = j := hj
    have kb := sub64_run a0 a1 j hc.1 hc.2.1 hj0 hj1
    rw [h1, h2] at kb
    clear h1 h2 hj
    go_enter Try.func103, Try.ntmps103
    go_wp2
    go_ret2
    exact ⟨rfl, Below.refl _ _⟩
  · cases h
end Go.Proofs.Ytbpobnlkfpjijaa.Pr
