/-
When the power goes, each byte of a file is one that was written, one that was safe, or 0, and the file is as long as the one or the other: proved of tallysticklaw15.DiskEither for every argument that the row lets in.
Conditions: none beside the row's own.
-/
import Derived.Test.YtbpobnlkfpjijaaOp
/-! The row of DiskEither. -/
namespace Go.Proofs.Ytbpobnlkfpjijaa.diskEither
open Go.ChangeShapes Go.WideShapes Go.ChangeAt Go.RowKit
open Go.ChangeMaps (open_string shut_string)
open Go.Proofs.YtbpobnlkfpjijaaW.PrintWords
set_option linter.unusedVariables false
set_option linter.unusedSimpArgs false
theorem own : ownKnob Try.prog.godebug = none := by kernel_rfl
theorem laidOut : laidOutB Try.prog = true := by kernel_rfl
set_option maxRecDepth 100000 in
theorem lifted (os : Os) (started : os.Started) (H : Type) (enc : TypeId × Value → H) :
    ReturnsInHanded {} Try.checked os 7 .any (Rows.diskEitherSpec.pre6 enc Try.prog Try.f7 Rows.diskEitherRow.domain false) (Rows.diskEitherSpec.post enc Try.prog Try.f7 false true false false) := by
  refine returnsInHanded_of_change_sized (C := Try.checked) own started (by kernel_rfl) Try.func7
    (ChangeSpec.witness6 (enc := enc) (C := Try.checked) false ⟨#[], #[.agg #[.int .i64 0, .slice none 0 0, .slice none 0 0, .int .i64 0, .int .i64 0]], []⟩ 8 (by kernel_rfl) (by kernel_rfl) (by kernel_rfl) (by kernel_rfl)) ?_
  intro W base args ds gs before hval0 hW hcnd hsz0 _
  have hsz : (DataW.weightsEach Try.prog (Try.f7.params.toList ++ Rows.diskEitherSpec.plain.varTypes Try.prog) (ds ++ gs)).all (· ≤ reachBytes) = true := hsz0
  have hval : ∀ (j : Nat) t v, Try.f7.params[j]? = some t → args[j]? = some v → Value.okWide Try.prog W .any base t v := hval0
  have hW' := hW
  obtain ⟨p, q, hA0, hV, rfl, hfz, hnd⟩ := hW
  have hA : DataW.TrodAll enc Try.prog W 0 (fun _ => true) true Try.f7.params.toList args.toList ds p := hA0
  rw [Try.params7] at hA hval hsz
  obtain ⟨v0, vs0, d0, ds0, p0, q0, hargs, rfl, rfl, h0, r0⟩ := trodAll_cons hA
  obtain ⟨rfl, rfl, rfl⟩ := trodAll_nil r0
  obtain rfl : args = #[v0] := by cases args; simp_all
  obtain ⟨rfl, rfl⟩ := trodVars_none hV
  obtain ⟨cs, rfl, hcs⟩ := okWide_struct Try.underlying53 (hval 0 53 v0 rfl rfl)
  have k0 := h0
  have lt0 : ∀ x ∈ p0, x.block < W.heap.size := by obtain ⟨m, hm⟩ := k0; exact DataW.trod_lt m _ _ _ hm
  obtain ⟨fuel, hf⟩ := h0
  have hw : ∀ n ∈ d0.weights Try.prog 53, n ≤ 140737488351232 := by
    intro n hn
    have h1 := List.all_eq_true.1 hsz n (by
      show n ∈ DataW.weightsEach Try.prog (53 :: _) (d0 :: _)
      simp only [DataW.weightsEach, List.mem_append]
      exact .inl hn)
    exact of_decide_eq_true h1
  obtain ⟨y, hK, hG⟩ := Pr.opens53 H enc W fuel _ _ hf hw
  obtain ⟨_, _, hcc, hK0, _, _, rfl, ⟨A, c, rfl, l, g⟩, _, _, rfl, rfl, rfl⟩ := hK
  obtain ⟨A0, c0, rfl, l0, g0⟩ := Pr.k46_open hK0
  obtain rfl : cs = #[.int .i64 y.d.f0, .slice A0 y.d.f1.length c0, .slice A y.ms.length c, .int .i64 y.i, .int .i64 y.k] := by
    apply Array.ext'
    simpa [Value.cells] using hcc
  clear hA0 hval0 hsz0 hsz
  have hfits : Pr.Fits y.d.f1 y.ms := ⟨fun x hx => ⟨(hG.1.2.2 x hx).2.1, (hG.1.2.2 x hx).2.2⟩, fun m hm => by
    have := bounds_u64 (hG.2.1 m hm)
    omega⟩
  refine (Pr.tallysticklaw15_DiskEither.calls 100 y.d.f0 A0 c0 y.d.f1 A c y.ms y.i y.k true W g0 l0 g l (Pr.either_true _ _ _ _ _ hfits)).mono fun e W' ⟨he, bel⟩ => ?_
  subst he
  exact ⟨_, rfl, _, _, _, [], _, [], hW', trodAll_mk1 (shut_bool Try.underlying4 _), (trodAll_cons_mk (Below.trod laidOut (by kernel_rfl) (of_decide_eq_true (by kernel_rfl)) k0 bel lt0) trodAll_mk0), rfl, bel.frame _, fun h => by cases h⟩
theorem over : Rows.diskEitherRow.holds Try.pinned (OpenSpec.ofChange Rows.diskEitherSpec) :=
  OpenClaim.holds_of_wide 7 Try.f7 rfl rfl rfl rfl rfl rfl rfl ⟨rfl, rfl, rfl, rfl, rfl⟩ rfl rfl rfl rfl rfl (by kernel_rfl) Try.func7 (by kernel_rfl)
    (of_decide_eq_true (by kernel_rfl)) (by unfold Func.isWrapper; first | (rw [if_pos (by decide +kernel)]; kernel_rfl) | (rw [if_neg (by decide +kernel)]; exact ⟨rfl, rfl⟩))
    (fun os started H enc _ => lifted os started H enc)
theorem proved : Rows.DiskEitherSaid := over
#print axioms proved
end Go.Proofs.Ytbpobnlkfpjijaa.diskEither
namespace Go.Proofs.Ytbpobnlkfpjijaa
theorem diskEither_holds : Rows.DiskEitherSaid := diskEither.proved
end Go.Proofs.Ytbpobnlkfpjijaa
