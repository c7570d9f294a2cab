/-
What is missing is a piece, and not there, and with it there the next one is, or nothing: proved of tallysticklaw19.PlanMissing for every argument that the row lets in.
Conditions: none beside the row's own.
-/
import Derived.Test.YtbpobnlkfpjijaaX7
/-! The row of PlanMissing. -/
namespace Go.Proofs.Ytbpobnlkfpjijaa.Pr
open Go.RowKit Go.Proofs.YtbpobnlkfpjijaaW.PrintWords Go.Proofs.YtbpobnlkfpjijaaW.PrintLast Go.Proofs.YtbpobnlkfpjijaaW.PrintMore
set_option linter.unusedVariables false
set_option linter.unusedSimpArgs false
structure SJ where
  c : Int
  d : Int
  g : Int
def kSJ : Kd SJ := Kd.iso (Kd.pair (Kd.int .i64) (Kd.pair (Kd.int .i64) (Kd.int .i64))) (fun x : SJ => (x.c, x.d, x.g))
def GSJ (y : SJ) : Prop := (Lit.int .i64 y.c).wf = true ∧ (Lit.int .i64 y.d).wf = true ∧ (Lit.int .i64 y.g).wf = true
theorem cellsSJ : Try.prog.cellsOf 23 = 3 := by kernel_rfl
theorem opensSJ : Opens Try.prog 23 kSJ GSJ := by
  intro H enc w fuel cs x h hw
  obtain ⟨xs, n, rfl, rfl, hl, hxs, hf⟩ := DataW.trod_struct Try.underlying23 h
  rw [cellsSJ] at hl
  obtain ⟨c0, c1, c2, rfl⟩ : ∃ c0 c1 c2, cs = [c0, c1, c2] := by
    rcases cs with _ | ⟨c0, _ | ⟨c1, _ | ⟨c2, _ | ⟨cz, cs⟩⟩⟩⟩ <;> simp at hl
    exact ⟨_, _, _, rfl⟩
  obtain ⟨x0, x1, x2, rfl⟩ : ∃ x0 x1 x2, xs = [x0, x1, x2] := by
    rcases xs with _ | ⟨c0, _ | ⟨c1, _ | ⟨c2, _ | ⟨cz, cs⟩⟩⟩⟩ <;> simp at hxs
    exact ⟨_, _, _, rfl⟩
  have h0 : DataW.trod enc Try.prog w 0 (fun _ => true) true n 3 ((List.drop 0 [c0, c1, c2]).take (Try.prog.cellsOf 3)) = some x0 := hf 0 _ rfl
  rw [cells3] at h0
  simp only [List.drop_zero, List.drop_succ_cons, List.take_succ_cons, List.take_zero] at h0
  have h1 : DataW.trod enc Try.prog w 0 (fun _ => true) true n 3 ((List.drop 1 [c0, c1, c2]).take (Try.prog.cellsOf 3)) = some x1 := hf 1 _ rfl
  rw [cells3] at h1
  simp only [List.drop_zero, List.drop_succ_cons, List.take_succ_cons, List.take_zero] at h1
  have h2 : DataW.trod enc Try.prog w 0 (fun _ => true) true n 3 ((List.drop 2 [c0, c1, c2]).take (Try.prog.cellsOf 3)) = some x2 := hf 2 _ rfl
  rw [cells3] at h2
  simp only [List.drop_zero, List.drop_succ_cons, List.take_succ_cons, List.take_zero] at h2
  have hw1 : ∀ n ∈ (DataW.agg [x0.1, x1.1, x2.1]).weights Try.prog 23, n ≤ 140737488351232 := hw
  simp only [DataW.weights, Try.underlying23, DataW.weightsEach, List.map_cons, List.map_nil, List.mem_append] at hw1
  obtain ⟨s0, e0, g0⟩ := (opens_int Try.underlying3) H enc w n _ _ h0 (fun m hm => hw1 m (.inl hm))
  obtain ⟨s1, e1, g1⟩ := (opens_int Try.underlying3) H enc w n _ _ h1 (fun m hm => hw1 m (.inr (.inl hm)))
  obtain ⟨s2, e2, g2⟩ := (opens_int Try.underlying3) H enc w n _ _ h2 (fun m hm => hw1 m (.inr (.inr (.inl hm))))
  cases e0
  cases e1
  cases e2
  exact ⟨⟨s0, s1, s2⟩, ⟨_, _, rfl, rfl, ⟨_, _, rfl, rfl, rfl⟩⟩, g0, g1, g2⟩
end Go.Proofs.Ytbpobnlkfpjijaa.Pr
namespace Go.Proofs.Ytbpobnlkfpjijaa.planMissing
open Go.ChangeShapes Go.WideShapes Go.ChangeAt Go.RowKit
open Go.ChangeMaps (open_string shut_string)
open Go.Proofs.YtbpobnlkfpjijaaW.PrintWords
set_option linter.unusedVariables false
theorem own : ownKnob Try.prog.godebug = none := by kernel_rfl
theorem laidOut : laidOutB Try.prog = true := by kernel_rfl
set_option maxRecDepth 100000 in
set_option maxHeartbeats 4000000 in
theorem lifted (os : Os) (started : os.Started) (H : Type) (enc : TypeId × Value → H) :
    ReturnsInHanded {} Try.checked os 5 .any (Rows.planMissingSpec.pre6 enc Try.prog Try.f5 Rows.planMissingRow.domain false) (Rows.planMissingSpec.post enc Try.prog Try.f5 false true false false) := by
  refine returnsInHanded_of_change_sized (C := Try.checked) own started (by kernel_rfl) Try.func5
    (ChangeSpec.witness6 (enc := enc) (C := Try.checked) false ⟨#[], #[.agg #[.int .i64 0, .int .i64 0, .int .i64 0], .slice none 0 0], []⟩ 8 (by kernel_rfl) (by kernel_rfl) (by kernel_rfl) (by kernel_rfl)) ?_
  intro W base args ds gs before hval0 hW hcnd hsz0 _
  have hsz : (DataW.weightsEach Try.prog (Try.f5.params.toList ++ Rows.planMissingSpec.plain.varTypes Try.prog) (ds ++ gs)).all (· ≤ reachBytes) = true := hsz0
  have hval : ∀ (j : Nat) t v, Try.f5.params[j]? = some t → args[j]? = some v → Value.okWide Try.prog W .any base t v := hval0
  have hW' := hW
  obtain ⟨p, q, hA0, hV, rfl, hfz, hnd⟩ := hW
  have hA : DataW.TrodAll enc Try.prog W 0 (fun _ => true) true Try.f5.params.toList args.toList ds p := hA0
  rw [Try.params5] at hA hval hsz
  obtain ⟨v0, vs0, d0, ds0, p0, q0, hargs, rfl, rfl, h0, r0⟩ := trodAll_cons hA
  obtain ⟨v1, vs1, d1, ds1, p1, q1, rfl, rfl, rfl, h1, r1⟩ := trodAll_cons r0
  obtain ⟨rfl, rfl, rfl⟩ := trodAll_nil r1
  obtain rfl : args = #[v0, v1] := by cases args; simp_all
  obtain ⟨rfl, rfl⟩ := trodVars_none hV
  obtain ⟨cs0, rfl, hcs0⟩ := okWide_struct Try.underlying23 (hval 0 23 v0 rfl rfl)
  have k0 := h0
  have lt0 : ∀ x ∈ p0, x.block < W.heap.size := by obtain ⟨m, hm⟩ := k0; exact DataW.trod_lt m _ _ _ hm
  obtain ⟨fuel0, hf0⟩ := h0
  have hw0 : ∀ n ∈ d0.weights Try.prog 23, n ≤ 140737488351232 := by
    intro n hn
    have h1 := List.all_eq_true.1 hsz n (by
      show n ∈ DataW.weightsEach Try.prog (23 :: _) (d0 :: _)
      simp only [DataW.weightsEach, List.mem_append]
      exact (.inl hn))
    exact of_decide_eq_true h1
  obtain ⟨y0, K0, G0⟩ := Pr.opensSJ H enc W fuel0 _ _ hf0 hw0
  obtain ⟨_, _, hcc0, rfl, ⟨_, _, rfl, rfl, rfl⟩⟩ := K0
  obtain rfl : cs0 = #[.int .i64 y0.c, .int .i64 y0.d, .int .i64 y0.g] := by
    apply Array.ext'
    simpa [Value.cells] using hcc0
  obtain ⟨sA1, sn1, sc1, rfl⟩ := okWide_slice Try.underlying35 (hval 1 35 v1 rfl rfl)
  have k1 := h1
  have lt1 : ∀ x ∈ p1, x.block < W.heap.size := by obtain ⟨m, hm⟩ := k1; exact DataW.trod_lt m _ _ _ hm
  obtain ⟨fuel1, hf1⟩ := h1
  have hw1 : ∀ n ∈ d1.weights Try.prog 35, n ≤ 140737488351232 := by
    intro n hn
    have h1 := List.all_eq_true.1 hsz n (by
      show n ∈ DataW.weightsEach Try.prog (23 :: 35 :: _) (d0 :: d1 :: _)
      simp only [DataW.weightsEach, List.mem_append]
      exact (.inr (.inl hn)))
    exact of_decide_eq_true h1
  obtain ⟨y1, K1, G1⟩ := Pr.opens35 H enc W fuel1 _ _ hf1 hw1
  obtain ⟨A1, c1, e1, l1, g1⟩ := K1
  simp only [Value.cells, List.cons.injEq, Value.slice.injEq, and_true] at e1
  obtain ⟨rfl, rfl, rfl⟩ := e1
  clear hA0 hval0 hsz0 hsz
  have hpure := Pr.missing_true y0.c y0.d y0.g y1
  refine (Pr.tallysticklaw19_PlanMissing.calls 300 y0.c y0.d y0.g (fun k_ => k_ < W.heap.size) sA1 sc1 y1 true W ⟨_, _, rfl, l1, Kd.C_F Pr.k41_heap g1⟩ hpure).mono fun e W' ⟨he, bel⟩ => ?_
  subst he
  exact ⟨_, rfl, _, _, _, [], _, [], hW', trodAll_mk1 (shut_bool Try.underlying4 _), (trodAll_cons_mk (Below.trod laidOut (by kernel_rfl) (of_decide_eq_true (by kernel_rfl)) k0 bel lt0) (trodAll_cons_mk (Below.trod laidOut (by kernel_rfl) (of_decide_eq_true (by kernel_rfl)) k1 bel lt1) trodAll_mk0)), rfl, bel.frame _, fun h => by cases h⟩
theorem over : Rows.planMissingRow.holds Try.pinned (OpenSpec.ofChange Rows.planMissingSpec) :=
  OpenClaim.holds_of_wide 5 Try.f5 rfl rfl rfl rfl rfl rfl rfl ⟨rfl, rfl, rfl, rfl, rfl⟩ rfl rfl rfl rfl rfl (by kernel_rfl) Try.func5 (by kernel_rfl)
    (of_decide_eq_true (by kernel_rfl)) (by unfold Func.isWrapper; first | (rw [if_pos (by decide +kernel)]; kernel_rfl) | (rw [if_neg (by decide +kernel)]; exact ⟨rfl, rfl⟩))
    (fun os started H enc _ => lifted os started H enc)
theorem proved : Rows.PlanMissingSaid := over
#print axioms proved
end Go.Proofs.Ytbpobnlkfpjijaa.planMissing
namespace Go.Proofs.Ytbpobnlkfpjijaa
/-- The row, under a short name, for the claim. -/
theorem planMissing_holds : Rows.PlanMissingSaid := planMissing.proved
end Go.Proofs.Ytbpobnlkfpjijaa
