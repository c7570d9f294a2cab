import Derived.Test.YtbpobnlkfpjijaaPr0
import Derived.Test.YtbpobnlkfpjijaaPr3
import Derived.Test.YtbpobnlkfpjijaaPr10
import Derived.Laws.Cover1
import Derived.Lib.Hide
/-! prod.Kara, where one of the two is short: the plain way. nat.Add, nat.Sub, nat.Shl: nothing is said of them. -/
namespace Go.Proofs.Ytbpobnlkfpjijaa.Pr
open Go.RowKit Go.Proofs.YtbpobnlkfpjijaaW.PrintWords Go.Proofs.YtbpobnlkfpjijaaW.PrintLast Go.Proofs.YtbpobnlkfpjijaaW.PrintMore
set_option linter.unusedVariables false
set_option linter.unusedSimpArgs false
theorem maxNat2 (k k' : IntKind) (x y : Nat) : Builtin.max2 (.int k (x : Int)) (.int k' (y : Int)) = pure (.int k ((max x y : Nat) : Int)) := by
  rw [max2_int]
  congr 2
  split <;> omega
theorem maxInt2 (k k' : IntKind) (x y : Int) : Builtin.max2 (.int k x) (.int k' y) = pure (.int k (max x y)) := by
  rw [max2_int]
  congr 2
  split <;> omega
theorem minInt2 (k k' : IntKind) (x y : Int) : Builtin.min2 (.int k x) (.int k' y) = pure (.int k (min x y)) := by
  rw [min2_int]
  congr 2
  split <;> omega
attribute [local go_sem] maxInt2 minInt2 max_two min_two
def prod_Kara.f (l0 : List Int) (l1 : List Int) (a2 : Int) : Option (List Int) :=
  (nat_Norm.f 10000 l0).bind fun x => (nat_Norm.f 10000 l1).bind fun y => if min (x.length : Int) (y.length : Int) ≤ max a2 3 then prod_School.f 10000 x y else none
set_option maxRecDepth 100000 in
set_option maxHeartbeats 4000000 in
theorem prod_Kara.calls (P0_ : Nat → Prop) (A0 : Option Addr) (c0 : Nat) (l0 : List Int) (P1_ : Nat → Prop) (A1 : Option Addr) (c1 : Nat) (l1 : List Int) (a2 : Int) (r : List Int) (w : World) (hs0 : Kd.V (Kd.int .u64) 57 w w.heap.size (fun k_ => P0_ k_) (.slice A0 l0.length c0) l0) (hs1 : Kd.V (Kd.int .u64) 57 w w.heap.size (fun k_ => P1_ k_) (.slice A1 l1.length c1) l1) (h : prod_Kara.f l0 l1 a2 = some r) :
    Calls Try.prog 71 #[.slice A0 l0.length c0, .slice A1 l1.length c1, .int .i64 a2] w fun e w' => ∃ v0_ : Value, e = .returned (v0_) ∧ Kd.V (Kd.int .u64) 57 w' w.heap.size (fun k_ => ((P0_ k_ ∨ P1_ k_) ∨ w.heap.size ≤ k_)) v0_ r ∧ Below w.heap.size w w' := by
  unfold prod_Kara.f at h
  obtain ⟨x, hx, h⟩ := Option.bind_eq_some_iff.mp h
  obtain ⟨y, hy, h⟩ := Option.bind_eq_some_iff.mp h
  split at h
  case isFalse => cases h
  rename_i hmin
  have HX := Lib.hid hx
  have HY := Lib.hid hy
  have HS := Lib.hid h
  have HV0 := Lib.hid (Kd.V_alloc hs0 (.cells #[.int .i64 a2] 3))
  have HV1 := Lib.hid (Kd.V_alloc hs1 (.cells #[.int .i64 a2] 3))
  clear hx hy h hs0 hs1
  go_enter Try.func71, Try.ntmps71
  go_wp2_with fail
  refine (nat_Norm.calls 10000 _ A0 c0 l0 x _ HV0.out HX.out).mono ?_
  rintro e w1 ⟨v0, rfl, hv0, hb1⟩
  obtain ⟨Ax, cx, rfl, hcx, hfx⟩ := hv0
  have hfx' := Kd.F_now hfx
  have HV1' := Lib.hid (Kd.V_below HV1.out hb1)
  have hB1 : Below w.heap.size w w1 := below_then (below_alloc (Below.refl _ _) _) (by simp) hb1
  have hcl : w1.cell? ⟨w.heap.size, 0, none⟩ = some (.int .i64 a2) := by
    have := hb1.cell (p := ⟨w.heap.size, 0, none⟩) (by simp)
    rw [this]
    go_simp
  have HF := Lib.hid hfx
  have HC := Lib.hid hfx'
  have HB1 := Lib.hid hB1
  clear hfx hfx' hB1 HV0 HV1 hb1
  go_wp2_with fail
  refine (nat_Norm.calls 10000 _ A1 c1 l1 y _ HV1'.out HY.out).mono ?_
  rintro e w2 ⟨v1, rfl, hv1, hb2⟩
  obtain ⟨Ay, cy, rfl, hcy, hfy⟩ := hv1
  have HD := Lib.hid (Kd.F_now hfy)
  have HE := Lib.hid (Kd.C_below HC.out hb2)
  have HB2 := Lib.hid (below_then HB1.out HB1.out.size hb2)
  have hcl2 := (hb2.cell (World.block_lt_of_cell? _ _ hcl)).trans hcl
  clear hfy hb2 hcl
  go_wp2_with fail
  refine (prod_School.calls 10000 Ax cx x Ay cy y r _ HE.out hcx HD.out hcy HS.out).mono ?_
  rintro e w3 ⟨v2, rfl, hv2, hb3⟩
  have HV := Lib.hid hv2
  have HB3 := Lib.hid (below_then HB2.out HB2.out.size hb3)
  have hsz := HB2.out.size
  clear hv2 hb3
  go_wp2
  go_ret
  exact ⟨_, rfl, Kd.V_mono HV.out (fun k hk => .inr (Nat.le_trans hsz hk)), HB3.out⟩
/-- nat.Sub: nothing is said. -/
def nat_Sub.f (l0 : List Int) (l1 : List Int) : Option (List Int × Int) := none
theorem nat_Sub.calls (P0_ : Nat → Prop) (A0 : Option Addr) (c0 : Nat) (l0 : List Int) (P1_ : Nat → Prop) (A1 : Option Addr) (c1 : Nat) (l1 : List Int) (r1 : List Int) (r2 : Int) (w : World) (hs0 : Kd.V (Kd.int .u64) 57 w w.heap.size (fun k_ => P0_ k_) (.slice A0 l0.length c0) l0) (hs1 : Kd.V (Kd.int .u64) 57 w w.heap.size (fun k_ => P1_ k_) (.slice A1 l1.length c1) l1) (h : nat_Sub.f l0 l1 = some (r1, r2)) :
    Calls Try.prog 94 #[.slice A0 l0.length c0, .slice A1 l1.length c1] w fun e w' => ∃ v0_ : Value, e = .returned (.tuple #[v0_, .int .i64 r2]) ∧ Kd.V (Kd.int .u64) 57 w' w.heap.size (fun k_ => ((P0_ k_ ∨ P1_ k_) ∨ w.heap.size ≤ k_)) v0_ r1 ∧ Below w.heap.size w w' := by
  cases h
/-- nat.Add: nothing is said. -/
def nat_Add.f (l0 : List Int) (l1 : List Int) : Option (List Int) := none
theorem nat_Add.calls (P0_ : Nat → Prop) (A0 : Option Addr) (c0 : Nat) (l0 : List Int) (P1_ : Nat → Prop) (A1 : Option Addr) (c1 : Nat) (l1 : List Int) (r : List Int) (w : World) (hs0 : Kd.V (Kd.int .u64) 57 w w.heap.size (fun k_ => P0_ k_) (.slice A0 l0.length c0) l0) (hs1 : Kd.V (Kd.int .u64) 57 w w.heap.size (fun k_ => P1_ k_) (.slice A1 l1.length c1) l1) (h : nat_Add.f l0 l1 = some r) :
    Calls Try.prog 104 #[.slice A0 l0.length c0, .slice A1 l1.length c1] w fun e w' => ∃ v0_ : Value, e = .returned (v0_) ∧ Kd.V (Kd.int .u64) 57 w' w.heap.size (fun k_ => ((P0_ k_ ∨ P1_ k_) ∨ w.heap.size ≤ k_)) v0_ r ∧ Below w.heap.size w w' := by
  cases h
/-- nat.Shl: nothing is said. -/
def nat_Shl.f (l0 : List Int) (a1 : Int) : Option (List Int) := none
theorem nat_Shl.calls (P0_ : Nat → Prop) (A0 : Option Addr) (c0 : Nat) (l0 : List Int) (a1 : Int) (r : List Int) (w : World) (hs0 : Kd.V (Kd.int .u64) 57 w w.heap.size (fun k_ => P0_ k_) (.slice A0 l0.length c0) l0) (h : nat_Shl.f l0 a1 = some r) :
    Calls Try.prog 105 #[.slice A0 l0.length c0, .int .i64 a1] w fun e w' => ∃ v0_ : Value, e = .returned (v0_) ∧ Kd.V (Kd.int .u64) 57 w' w.heap.size (fun k_ => (P0_ k_ ∨ w.heap.size ≤ k_)) v0_ r ∧ Below w.heap.size w w' := by
  cases h
end Go.Proofs.Ytbpobnlkfpjijaa.Pr
