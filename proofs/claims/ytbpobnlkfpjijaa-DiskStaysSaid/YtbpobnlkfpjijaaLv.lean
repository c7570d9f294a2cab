import Derived.Test.YtbpobnlkfpjijaaLs
import Derived.Test.YtbpobnlkfpjijaaPr93
/-! DiskStays is true. -/
namespace Go.Proofs.Ytbpobnlkfpjijaa.Pr
open Go.RowKit Go.Proofs.YtbpobnlkfpjijaaW.PrintWords Go.Proofs.YtbpobnlkfpjijaaW.PrintLast Go.Proofs.YtbpobnlkfpjijaaW.PrintMore
set_option linter.unusedVariables false
set_option linter.unusedSimpArgs false
theorem stays_j1 (k : Nat) (s dst o : ByteArray) (a : Int) (l lw lr ld : List S55) (hl : Sorted l) (hw : Sorted lw) (hr : Sorted lr) (hd : Sorted ld)
    (mw : o ≠ s → ∀ x : S55, x.f0 = o → (x ∈ l ↔ x ∈ lw)) (md : o ≠ s → ∀ x : S55, x.f0 = o → (x ∈ l ↔ x ∈ ld)) (mr : o ≠ s → o ≠ dst → ∀ x : S55, x.f0 = o → (x ∈ l ↔ x ∈ lr)) :
    tallysticklaw15_DiskStays.j1 (k + 1) s dst o true false a l a lw a lr a ld = some true := by
  unfold tallysticklaw15_DiskStays.j1
  dsimp only
  rw [if_neg (by decide)]
  by_cases h : o.toList = s.toList
  · obtain ⟨t0, c0, h0⟩ := read_some a hl o
    obtain ⟨t1, c1, h1⟩ := read_some a hw o
    obtain ⟨t2, c2, h2⟩ := read_some a hr o
    obtain ⟨t3, c3, h3⟩ := read_some a hd o
    rw [h0, Option.bind_some, h1, Option.bind_some, h2, Option.bind_some, h3, Option.bind_some, if_pos rfl, if_pos h]
  · have hne : o ≠ s := fun e => h (by rw [e])
    rw [← read_eq a a hl hw o (mw hne), ← read_eq a a hl hd o (md hne)]
    obtain ⟨t0, c0, h0⟩ := read_some a hl o
    rw [h0]
    by_cases h2 : o.toList = dst.toList
    · obtain ⟨t2, c2, h2'⟩ := read_some a hr o
      rw [Option.bind_some, Option.bind_some, h2', Option.bind_some, Option.bind_some, if_pos rfl, if_neg h]
      simp only
      rw [if_pos trivial, if_pos trivial, if_pos trivial, if_pos trivial, if_pos h2]
    · have hne2 : o ≠ dst := fun e => h2 (by rw [e])
      rw [← read_eq a a hl hr o (mr hne hne2), h0]
      rw [Option.bind_some, Option.bind_some, Option.bind_some, Option.bind_some, if_pos rfl, if_neg h]
      simp only
      rw [if_pos trivial, if_pos trivial, if_pos trivial, if_pos trivial, if_neg h2, if_pos trivial]
      simp
theorem small_used {l lw : List S55} {f : S55} {a : Int} (h : RightP a lw) (hs : Small lw) (k : Nat) (hk : 65 ≤ k) : disk_Used.f k a lw = some (used lw : Int) := used_is a lw h.2.1 hs k hk
theorem stays_true (a : Int) (l : List S55) (s dst data : ByteArray) (ms : List Int) (o : ByteArray) (hf : Fits l ms) (ha : a ≤ 9223372036854775807) (hd : data.size ≤ 140737488351232) : tallysticklaw15_DiskStays.f 200 a l s dst data ms o = some true := by
  have hsm : Small l := fun x hx => (hf.1 x hx).1
  unfold tallysticklaw15_DiskStays.f
  obtain ⟨b, hr, hb⟩ := right_is a l
  rw [shown_true 200 (by omega), Option.bind_some, hr 200 (by omega), Option.bind_some]
  cases b with
  | false => rfl
  | true =>
    have hR := hb.1 rfl
    rw [if_pos rfl]
    obtain ⟨e, lw, hwr, hRw, mw, huse⟩ : ∃ e lw, disk_Write.f 200 a l s data = some (a, lw, e) ∧ RightP a lw ∧ (o ≠ s → ∀ x : S55, x.f0 = o → (x ∈ l ↔ x ∈ lw)) ∧ (e = 0 → disk_Used.f 199 a lw = some (used lw : Int) ∧ (used lw : Int) ≤ a) := by
      rcases write_put a l s data hR hsm ha hd 200 (by omega) with ⟨e, hw, he⟩ | ⟨f, lw, hw, hf0, hf1, hput, hRw, hu⟩
      · exact ⟨e, l, hw, hR, fun _ _ _ => Iff.rfl, fun h => absurd h he⟩
      · refine ⟨0, lw, hw, hRw, fun hne x hx => put_mem hput (by rw [hx, hf0]; exact hne), fun _ => ⟨used_is a lw hRw.2.1 ?_ 199 (by omega), hu⟩⟩
        intro x hx
        by_cases he : x.f0 = f.f0
        · have : x = f := sorted_one hRw.2.2.2 hx (put_get hput) he
          rw [this, hf1]
          exact hd
        · exact hsm x ((put_mem hput he).2 hx)
    obtain ⟨e2, lr, hrn, hRr, mr⟩ : ∃ e lr, disk_Rename.f a l s dst = some (a, lr, e) ∧ RightP a lr ∧ (o ≠ s → o ≠ dst → ∀ x : S55, x.f0 = o → (x ∈ l ↔ x ∈ lr)) := by
      rcases rename_put a l s dst hR with ⟨_, h⟩ | ⟨_, h⟩ | ⟨x, l1, l', h, hx, hcut, hput, hR'⟩
      · exact ⟨_, l, h, hR, fun _ _ _ _ => Iff.rfl⟩
      · exact ⟨_, l, h, hR, fun _ _ _ _ => Iff.rfl⟩
      · refine ⟨_, l', h, hR', fun h1 h2 z hz => ?_⟩
        rw [cut_mem hcut (by rw [hz, hx]; exact h1), put_mem hput (by rw [hz]; exact h2)]
    obtain ⟨e3, ld, hdl, hRd, md⟩ : ∃ e ld, disk_Delete.f a l s = some (a, ld, e) ∧ RightP a ld ∧ (o ≠ s → ∀ x : S55, x.f0 = o → (x ∈ l ↔ x ∈ ld)) := by
      rcases delete_cut a l s hR with ⟨x, l', h, hx, hcut⟩ | ⟨_, h⟩
      · exact ⟨_, l', h, cut_right hcut hR, fun h1 z hz => cut_mem hcut (by rw [hz, hx]; exact h1)⟩
      · exact ⟨_, l, h, hR, fun _ _ _ => Iff.rfl⟩
    rw [hwr, Option.bind_some]
    simp only
    rw [hrn, Option.bind_some]
    simp only
    rw [hdl, Option.bind_some]
    simp only
    rw [right_true hRw 200 (by omega), Option.bind_some, if_pos rfl, right_true hRr 200 (by omega), Option.bind_some, if_pos rfl, right_true hRd 200 (by omega), Option.bind_some, if_pos rfl, crash_some a l ms hR.2.1 hf, Option.bind_some]
    simp only
    rw [right_true (crash_right hR ms) 200 (by omega), Option.bind_some]
    show tallysticklaw15_DiskStays.j0 (199 + 1) s dst o true e true a l a lw a lr a ld = some true
    have hj := stays_j1 198 s dst o a l lw lr ld hR.2.2.2 hRw.2.2.2 hRr.2.2.2 hRd.2.2.2 mw md mr
    unfold tallysticklaw15_DiskStays.j0
    dsimp only
    rw [if_pos rfl]
    by_cases he : e = 0
    · rw [if_pos he, (huse he).1, Option.bind_some, decide_eq_false (by have := (huse he).2; omega)]
      exact hj
    · rw [if_neg he]
      exact hj
end Go.Proofs.Ytbpobnlkfpjijaa.Pr
