/-
A right disk stays right, its room is not exceeded by what is written, and what is not touched is as it was: proved of tallysticklaw15.DiskStays for every argument that the row lets in.
Conditions: none beside the row's own.
-/
import Derived.Test.YtbpobnlkfpjijaaOp
import Derived.Test.YtbpobnlkfpjijaaLv
/-! The row of DiskStays. -/
namespace Go.Proofs.Ytbpobnlkfpjijaa.Pr
open Go.RowKit Go.Proofs.YtbpobnlkfpjijaaW.PrintWords Go.Proofs.YtbpobnlkfpjijaaW.PrintLast Go.Proofs.YtbpobnlkfpjijaaW.PrintMore
set_option linter.unusedVariables false
set_option linter.unusedSimpArgs false
structure S60 where
  d : S46
  s : ByteArray
  dst : ByteArray
  data : ByteArray
  ms : List Int
  o : ByteArray
def kS60 : Kd S60 := Kd.iso (Kd.pair k46 (Kd.pair Kd.string (Kd.pair Kd.string (Kd.pair Kd.string (Kd.pair (Kd.slice 57 (Kd.int .u64)) Kd.string))))) (fun x : S60 => (x.d, x.s, x.dst, x.data, x.ms, x.o))
def GS60 (y : S60) : Prop := G46 y.d ∧ y.s.size ≤ 140737488351232 ∧ y.dst.size ≤ 140737488351232 ∧ y.data.size ≤ 140737488351232 ∧ (∀ n ∈ y.ms, (Lit.int .u64 n).wf = true) ∧ y.o.size ≤ 140737488351232
theorem cellsS60 : Try.prog.cellsOf 60 = 7 := by kernel_rfl
theorem opensS60 : Opens Try.prog 60 kS60 GS60 := by
  intro H enc w fuel cs x h hw
  obtain ⟨xs, n, rfl, rfl, hl, hxs, hf⟩ := DataW.trod_struct Try.underlying60 h
  rw [cellsS60] at hl
  obtain ⟨c0, c1, c2, c3, c4, c5, c6, rfl⟩ : ∃ c0 c1 c2 c3 c4 c5 c6, cs = [c0, c1, c2, c3, c4, c5, c6] := by
    rcases cs with _ | ⟨c0, _ | ⟨c1, _ | ⟨c2, _ | ⟨c3, _ | ⟨c4, _ | ⟨c5, _ | ⟨c6, _ | ⟨cz, cs⟩⟩⟩⟩⟩⟩⟩⟩ <;> simp at hl
    exact ⟨_, _, _, _, _, _, _, rfl⟩
  obtain ⟨x0, x1, x2, x3, x4, x5, rfl⟩ : ∃ x0 x1 x2 x3 x4 x5, xs = [x0, x1, x2, x3, x4, x5] := by
    rcases xs with _ | ⟨c0, _ | ⟨c1, _ | ⟨c2, _ | ⟨c3, _ | ⟨c4, _ | ⟨c5, _ | ⟨cz, cs⟩⟩⟩⟩⟩⟩⟩ <;> simp at hxs
    exact ⟨_, _, _, _, _, _, rfl⟩
  have h0 : DataW.trod enc Try.prog w 0 (fun _ => true) true n 46 ((List.drop 0 [c0, c1, c2, c3, c4, c5, c6]).take (Try.prog.cellsOf 46)) = some x0 := hf 0 _ rfl
  rw [cells46] at h0
  simp only [List.drop_zero, List.drop_succ_cons, List.take_succ_cons, List.take_zero] at h0
  have h1 : DataW.trod enc Try.prog w 0 (fun _ => true) true n 9 ((List.drop 2 [c0, c1, c2, c3, c4, c5, c6]).take (Try.prog.cellsOf 9)) = some x1 := hf 1 _ rfl
  rw [cells9] at h1
  simp only [List.drop_zero, List.drop_succ_cons, List.take_succ_cons, List.take_zero] at h1
  have h2 : DataW.trod enc Try.prog w 0 (fun _ => true) true n 9 ((List.drop 3 [c0, c1, c2, c3, c4, c5, c6]).take (Try.prog.cellsOf 9)) = some x2 := hf 2 _ rfl
  rw [cells9] at h2
  simp only [List.drop_zero, List.drop_succ_cons, List.take_succ_cons, List.take_zero] at h2
  have h3 : DataW.trod enc Try.prog w 0 (fun _ => true) true n 9 ((List.drop 4 [c0, c1, c2, c3, c4, c5, c6]).take (Try.prog.cellsOf 9)) = some x3 := hf 3 _ rfl
  rw [cells9] at h3
  simp only [List.drop_zero, List.drop_succ_cons, List.take_succ_cons, List.take_zero] at h3
  have h4 : DataW.trod enc Try.prog w 0 (fun _ => true) true n 39 ((List.drop 5 [c0, c1, c2, c3, c4, c5, c6]).take (Try.prog.cellsOf 39)) = some x4 := hf 4 _ rfl
  rw [cells39] at h4
  simp only [List.drop_zero, List.drop_succ_cons, List.take_succ_cons, List.take_zero] at h4
  have h5 : DataW.trod enc Try.prog w 0 (fun _ => true) true n 9 ((List.drop 6 [c0, c1, c2, c3, c4, c5, c6]).take (Try.prog.cellsOf 9)) = some x5 := hf 5 _ rfl
  rw [cells9] at h5
  simp only [List.drop_zero, List.drop_succ_cons, List.take_succ_cons, List.take_zero] at h5
  have hw1 : ∀ n ∈ (DataW.agg [x0.1, x1.1, x2.1, x3.1, x4.1, x5.1]).weights Try.prog 60, n ≤ 140737488351232 := hw
  simp only [DataW.weights, Try.underlying60, DataW.weightsEach, List.map_cons, List.map_nil, List.mem_append] at hw1
  obtain ⟨s0, e0, g0⟩ := opens46 H enc w n _ _ h0 (fun m hm => hw1 m (.inl hm))
  obtain ⟨s1, e1, g1⟩ := (opens_string Try.underlying9) H enc w n _ _ h1 (fun m hm => hw1 m (.inr (.inl hm)))
  obtain ⟨s2, e2, g2⟩ := (opens_string Try.underlying9) H enc w n _ _ h2 (fun m hm => hw1 m (.inr (.inr (.inl hm))))
  obtain ⟨s3, e3, g3⟩ := (opens_string Try.underlying9) H enc w n _ _ h3 (fun m hm => hw1 m (.inr (.inr (.inr (.inl hm)))))
  obtain ⟨s4, e4, g4⟩ := opens39 H enc w n _ _ h4 (fun m hm => hw1 m (.inr (.inr (.inr (.inr (.inl hm))))))
  obtain ⟨s5, e5, g5⟩ := (opens_string Try.underlying9) H enc w n _ _ h5 (fun m hm => hw1 m (.inr (.inr (.inr (.inr (.inr (.inl hm)))))))
  obtain ⟨A0, q0, z0, l0, m0⟩ := k46_open e0
  cases z0
  cases e1
  cases e2
  cases e3
  obtain ⟨A4, q4, z4, l4, m4⟩ := e4
  cases z4
  cases e5
  exact ⟨⟨s0, s1, s2, s3, s4, s5⟩, ⟨_, _, rfl, e0, ⟨_, _, rfl, rfl, ⟨_, _, rfl, rfl, ⟨_, _, rfl, rfl, ⟨_, _, rfl, ⟨A4, q4, rfl, l4, m4⟩, rfl⟩⟩⟩⟩⟩, g0, g1, g2, g3, g4.2, g5⟩
end Go.Proofs.Ytbpobnlkfpjijaa.Pr
namespace Go.Proofs.Ytbpobnlkfpjijaa.diskStays
open Go.ChangeShapes Go.WideShapes Go.ChangeAt Go.RowKit
open Go.ChangeMaps (open_string shut_string)
open Go.Proofs.YtbpobnlkfpjijaaW.PrintWords
set_option linter.unusedVariables false
theorem own : ownKnob Try.prog.godebug = none := by kernel_rfl
theorem laidOut : laidOutB Try.prog = true := by kernel_rfl
set_option maxRecDepth 100000 in
set_option maxHeartbeats 4000000 in
theorem lifted (os : Os) (started : os.Started) (H : Type) (enc : TypeId × Value → H) :
    ReturnsInHanded {} Try.checked os 9 .any (Rows.diskStaysSpec.pre6 enc Try.prog Try.f9 Rows.diskStaysRow.domain false) (Rows.diskStaysSpec.post enc Try.prog Try.f9 false true false false) := by
  refine returnsInHanded_of_change_sized (C := Try.checked) own started (by kernel_rfl) Try.func9
    (ChangeSpec.witness6 (enc := enc) (C := Try.checked) false ⟨#[], #[.agg #[.int .i64 0, .slice none 0 0, .string ByteArray.empty, .string ByteArray.empty, .string ByteArray.empty, .slice none 0 0, .string ByteArray.empty]], []⟩ 8 (by kernel_rfl) (by kernel_rfl) (by kernel_rfl) (by kernel_rfl)) ?_
  intro W base args ds gs before hval0 hW hcnd hsz0 _
  have hsz : (DataW.weightsEach Try.prog (Try.f9.params.toList ++ Rows.diskStaysSpec.plain.varTypes Try.prog) (ds ++ gs)).all (· ≤ reachBytes) = true := hsz0
  have hval : ∀ (j : Nat) t v, Try.f9.params[j]? = some t → args[j]? = some v → Value.okWide Try.prog W .any base t v := hval0
  have hW' := hW
  obtain ⟨p, q, hA0, hV, rfl, hfz, hnd⟩ := hW
  have hA : DataW.TrodAll enc Try.prog W 0 (fun _ => true) true Try.f9.params.toList args.toList ds p := hA0
  rw [Try.params9] at hA hval hsz
  obtain ⟨v0, vs0, d0, ds0, p0, q0, hargs, rfl, rfl, h0, r0⟩ := trodAll_cons hA
  obtain ⟨rfl, rfl, rfl⟩ := trodAll_nil r0
  obtain rfl : args = #[v0] := by cases args; simp_all
  obtain ⟨rfl, rfl⟩ := trodVars_none hV
  obtain ⟨cs0, rfl, hcs0⟩ := okWide_struct Try.underlying60 (hval 0 60 v0 rfl rfl)
  have k0 := h0
  have lt0 : ∀ x ∈ p0, x.block < W.heap.size := by obtain ⟨m, hm⟩ := k0; exact DataW.trod_lt m _ _ _ hm
  obtain ⟨fuel0, hf0⟩ := h0
  have hw0 : ∀ n ∈ d0.weights Try.prog 60, n ≤ 140737488351232 := by
    intro n hn
    have h1 := List.all_eq_true.1 hsz n (by
      show n ∈ DataW.weightsEach Try.prog (60 :: _) (d0 :: _)
      simp only [DataW.weightsEach, List.mem_append]
      exact (.inl hn))
    exact of_decide_eq_true h1
  obtain ⟨y0, K0, G0⟩ := Pr.opensS60 H enc W fuel0 _ _ hf0 hw0
  obtain ⟨_, _, hcc0, K0_0, ⟨_, _, rfl, rfl, ⟨_, _, rfl, rfl, ⟨_, _, rfl, rfl, ⟨_, _, rfl, ⟨A0_4, c0_4, rfl, l0_4, g0_4⟩, rfl⟩⟩⟩⟩⟩ := K0
  obtain ⟨A0_0, c0_0, rfl, l0_0, g0_0⟩ := Pr.k46_open K0_0
  obtain rfl : cs0 = #[.int .i64 y0.d.f0, .slice A0_0 y0.d.f1.length c0_0, .string y0.s, .string y0.dst, .string y0.data, .slice A0_4 y0.ms.length c0_4, .string y0.o] := by
    apply Array.ext'
    simpa [Value.cells] using hcc0
  clear hA0 hval0 hsz0 hsz
  have hfits : Pr.Fits y0.d.f1 y0.ms := ⟨fun x hx => ⟨(G0.1.2.2 x hx).2.1, (G0.1.2.2 x hx).2.2⟩, fun m hm => by
    have := bounds_u64 (G0.2.2.2.2.1 m hm)
    omega⟩
  have hb := bounds_i64 G0.1.1
  have hpure := Pr.stays_true y0.d.f0 y0.d.f1 y0.s y0.dst y0.data y0.ms y0.o hfits (by omega) G0.2.2.2.1
  refine (Pr.tallysticklaw15_DiskStays.calls 200 y0.d.f0 A0_0 c0_0 y0.d.f1 y0.s y0.dst y0.data A0_4 c0_4 y0.ms y0.o true W g0_0 l0_0 g0_4 l0_4 hpure).mono fun e W' ⟨he, bel⟩ => ?_
  subst he
  exact ⟨_, rfl, _, _, _, [], _, [], hW', trodAll_mk1 (shut_bool Try.underlying4 _), (trodAll_cons_mk (Below.trod laidOut (by kernel_rfl) (of_decide_eq_true (by kernel_rfl)) k0 bel lt0) trodAll_mk0), rfl, bel.frame _, fun h => by cases h⟩
theorem over : Rows.diskStaysRow.holds Try.pinned (OpenSpec.ofChange Rows.diskStaysSpec) :=
  OpenClaim.holds_of_wide 9 Try.f9 rfl rfl rfl rfl rfl rfl rfl ⟨rfl, rfl, rfl, rfl, rfl⟩ rfl rfl rfl rfl rfl (by kernel_rfl) Try.func9 (by kernel_rfl)
    (of_decide_eq_true (by kernel_rfl)) (by unfold Func.isWrapper; first | (rw [if_pos (by decide +kernel)]; kernel_rfl) | (rw [if_neg (by decide +kernel)]; exact ⟨rfl, rfl⟩))
    (fun os started H enc _ => lifted os started H enc)
theorem proved : Rows.DiskStaysSaid := over
#print axioms proved
end Go.Proofs.Ytbpobnlkfpjijaa.diskStays
namespace Go.Proofs.Ytbpobnlkfpjijaa
/-- The row, under a short name, for the claim. -/
theorem diskStays_holds : Rows.DiskStaysSaid := diskStays.proved
end Go.Proofs.Ytbpobnlkfpjijaa
