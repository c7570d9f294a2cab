/-
What is left when the power goes is as the document says, and so is a new disk: proved of tallysticklaw15.DiskCrashes for every argument that the row lets in.
Conditions: none beside the row's own.
-/
import Derived.Test.YtbpobnlkfpjijaaOp
import Derived.Test.YtbpobnlkfpjijaaLc
/-! The row of DiskCrashes. -/
namespace Go.Proofs.Ytbpobnlkfpjijaa.Pr
open Go.RowKit Go.Proofs.YtbpobnlkfpjijaaW.PrintWords Go.Proofs.YtbpobnlkfpjijaaW.PrintLast Go.Proofs.YtbpobnlkfpjijaaW.PrintMore
end Go.Proofs.Ytbpobnlkfpjijaa.Pr
namespace Go.Proofs.Ytbpobnlkfpjijaa.diskCrashes
open Go.ChangeShapes Go.WideShapes Go.ChangeAt Go.RowKit
open Go.ChangeMaps (open_string shut_string)
open Go.Proofs.YtbpobnlkfpjijaaW.PrintWords
set_option linter.unusedVariables false
theorem own : ownKnob Try.prog.godebug = none := by kernel_rfl
theorem laidOut : laidOutB Try.prog = true := by kernel_rfl
set_option maxRecDepth 100000 in
set_option maxHeartbeats 4000000 in
theorem lifted (os : Os) (started : os.Started) (H : Type) (enc : TypeId × Value → H) :
    ReturnsInHanded {} Try.checked os 6 .any (Rows.diskCrashesSpec.pre6 enc Try.prog Try.f6 Rows.diskCrashesRow.domain false) (Rows.diskCrashesSpec.post enc Try.prog Try.f6 false true false false) := by
  refine returnsInHanded_of_change_sized (C := Try.checked) own started (by kernel_rfl) Try.func6
    (ChangeSpec.witness6 (enc := enc) (C := Try.checked) false ⟨#[], #[.agg #[.int .i64 0, .slice none 0 0], .slice none 0 0, .int .i64 0], []⟩ 8 (by kernel_rfl) (by kernel_rfl) (by kernel_rfl) (by kernel_rfl)) ?_
  intro W base args ds gs before hval0 hW hcnd hsz0 _
  have hsz : (DataW.weightsEach Try.prog (Try.f6.params.toList ++ Rows.diskCrashesSpec.plain.varTypes Try.prog) (ds ++ gs)).all (· ≤ reachBytes) = true := hsz0
  have hval : ∀ (j : Nat) t v, Try.f6.params[j]? = some t → args[j]? = some v → Value.okWide Try.prog W .any base t v := hval0
  have hW' := hW
  obtain ⟨p, q, hA0, hV, rfl, hfz, hnd⟩ := hW
  have hA : DataW.TrodAll enc Try.prog W 0 (fun _ => true) true Try.f6.params.toList args.toList ds p := hA0
  rw [Try.params6] at hA hval hsz
  obtain ⟨v0, vs0, d0, ds0, p0, q0, hargs, rfl, rfl, h0, r0⟩ := trodAll_cons hA
  obtain ⟨v1, vs1, d1, ds1, p1, q1, rfl, rfl, rfl, h1, r1⟩ := trodAll_cons r0
  obtain ⟨v2, vs2, d2, ds2, p2, q2, rfl, rfl, rfl, h2, r2⟩ := trodAll_cons r1
  obtain ⟨rfl, rfl, rfl⟩ := trodAll_nil r2
  obtain rfl : args = #[v0, v1, v2] := by cases args; simp_all
  obtain ⟨rfl, rfl⟩ := trodVars_none hV
  obtain ⟨cs0, rfl, hcs0⟩ := okWide_struct Try.underlying46 (hval 0 46 v0 rfl rfl)
  have k0 := h0
  have lt0 : ∀ x ∈ p0, x.block < W.heap.size := by obtain ⟨m, hm⟩ := k0; exact DataW.trod_lt m _ _ _ hm
  obtain ⟨fuel0, hf0⟩ := h0
  have hw0 : ∀ n ∈ d0.weights Try.prog 46, n ≤ 140737488351232 := by
    intro n hn
    have h1 := List.all_eq_true.1 hsz n (by
      show n ∈ DataW.weightsEach Try.prog (46 :: _) (d0 :: _)
      simp only [DataW.weightsEach, List.mem_append]
      exact (.inl hn))
    exact of_decide_eq_true h1
  obtain ⟨y0, K0, G0⟩ := Pr.opens46 H enc W fuel0 _ _ hf0 hw0
  obtain ⟨A0, c0, e0, l0, g0⟩ := Pr.k46_open K0
  obtain rfl : cs0 = #[.int .i64 y0.f0, .slice A0 y0.f1.length c0] := by
    apply Array.ext'
    simpa [Value.cells] using e0
  obtain ⟨sA1, sn1, sc1, rfl⟩ := okWide_slice Try.underlying39 (hval 1 39 v1 rfl rfl)
  have k1 := h1
  have lt1 : ∀ x ∈ p1, x.block < W.heap.size := by obtain ⟨m, hm⟩ := k1; exact DataW.trod_lt m _ _ _ hm
  obtain ⟨fuel1, hf1⟩ := h1
  have hw1 : ∀ n ∈ d1.weights Try.prog 39, n ≤ 140737488351232 := by
    intro n hn
    have h1 := List.all_eq_true.1 hsz n (by
      show n ∈ DataW.weightsEach Try.prog (46 :: 39 :: _) (d0 :: d1 :: _)
      simp only [DataW.weightsEach, List.mem_append]
      exact (.inr (.inl hn)))
    exact of_decide_eq_true h1
  obtain ⟨y1, K1, G1⟩ := Pr.opens39 H enc W fuel1 _ _ hf1 hw1
  obtain ⟨A1, c1, e1, l1, g1⟩ := K1
  simp only [Value.cells, List.cons.injEq, Value.slice.injEq, and_true] at e1
  obtain ⟨rfl, rfl, rfl⟩ := e1
  obtain ⟨a2, rfl, rfl, rfl, w2⟩ := open_int Try.underlying3 (hval 2 3 v2 rfl rfl) h2
  clear hA0 hval0 hsz0 hsz
  have hfits : Pr.Fits y0.f1 y1 := ⟨fun x hx => ⟨(G0.2.2 x hx).2.1, (G0.2.2 x hx).2.2⟩, fun m hm => by
    have := bounds_u64 (G1.2 m hm)
    omega⟩
  obtain ⟨KK, hKK⟩ : ∃ KK, 140737488351700 ≤ KK := ⟨140737488351700, Nat.le_refl _⟩
  have hpure := Pr.crashes_true y0.f0 y0.f1 y1 a2 hfits KK hKK
  refine (Pr.tallysticklaw15_DiskCrashes.calls KK y0.f0 A0 c0 y0.f1 sA1 sc1 y1 a2 true W g0 l0 g1 l1 hpure).mono fun e W' ⟨he, bel⟩ => ?_
  subst he
  exact ⟨_, rfl, _, _, _, [], _, [], hW', trodAll_mk1 (shut_bool Try.underlying4 _), (trodAll_cons_mk (Below.trod laidOut (by kernel_rfl) (of_decide_eq_true (by kernel_rfl)) k0 bel lt0) (trodAll_cons_mk (Below.trod laidOut (by kernel_rfl) (of_decide_eq_true (by kernel_rfl)) k1 bel lt1) (trodAll_cons_mk (shut_int Try.underlying3 w2) trodAll_mk0))), rfl, bel.frame _, fun h => by cases h⟩
theorem over : Rows.diskCrashesRow.holds Try.pinned (OpenSpec.ofChange Rows.diskCrashesSpec) :=
  OpenClaim.holds_of_wide 6 Try.f6 rfl rfl rfl rfl rfl rfl rfl ⟨rfl, rfl, rfl, rfl, rfl⟩ rfl rfl rfl rfl rfl (by kernel_rfl) Try.func6 (by kernel_rfl)
    (of_decide_eq_true (by kernel_rfl)) (by unfold Func.isWrapper; first | (rw [if_pos (by decide +kernel)]; kernel_rfl) | (rw [if_neg (by decide +kernel)]; exact ⟨rfl, rfl⟩))
    (fun os started H enc _ => lifted os started H enc)
theorem proved : Rows.DiskCrashesSaid := over
#print axioms proved
end Go.Proofs.Ytbpobnlkfpjijaa.diskCrashes
namespace Go.Proofs.Ytbpobnlkfpjijaa
/-- The row, under a short name, for the claim. -/
theorem diskCrashes_holds : Rows.DiskCrashesSaid := diskCrashes.proved
end Go.Proofs.Ytbpobnlkfpjijaa
