import Derived.Test.YtbpobnlkfpjijaaLs
import Derived.Test.YtbpobnlkfpjijaaPr94
/-! DiskReads is true. -/
namespace Go.Proofs.Ytbpobnlkfpjijaa.Pr
open Go.RowKit Go.Proofs.YtbpobnlkfpjijaaW.PrintWords Go.Proofs.YtbpobnlkfpjijaaW.PrintLast Go.Proofs.YtbpobnlkfpjijaaW.PrintMore
set_option linter.unusedVariables false
set_option linter.unusedSimpArgs false
theorem reads_true (a : Int) (l : List S55) (s dst data : ByteArray) (hsm : Small l) (ha : a ≤ 9223372036854775807) (hd : data.size ≤ 140737488351232) : tallysticklaw15_DiskReads.f 100 a l s dst data = some true := by
  unfold tallysticklaw15_DiskReads.f
  obtain ⟨b, hr, hb⟩ := right_is a l
  rw [shown_true 100 (by omega), Option.bind_some, hr 100 (by omega), Option.bind_some]
  cases b with
  | false => rfl
  | true =>
    have hR := hb.1 rfl
    rw [if_pos rfl]
    rcases write_put a l s data hR hsm ha hd 100 (by omega) with ⟨e, hw, he⟩ | ⟨f, lw, hw, hf0, hf1, hput, hRw, _⟩
    · rw [hw, Option.bind_some]
      simp only
      rw [if_neg he]
    · rw [hw, Option.bind_some]
      simp only
      rw [if_pos trivial]
      subst hf0; subst hf1
      have hfm := put_get hput
      rw [read_mem a hRw.2.2.2 hfm, Option.bind_some]
      simp only
      rcases delete_cut a lw f.f0 hRw with ⟨y, ln, hdel, hy, hcut⟩ | ⟨hno, _⟩
      · have hread : disk_Read.f a ln f.f0 = some (⟨#[]⟩, 9) := read_none a (cut_sorted hcut hRw.2.2.2) (fun x hx => by rw [← hy]; exact cut_none hcut x hx)
        have hj : ∀ lm, tallysticklaw15_DiskReads.j0 100 f.f0 dst f.f1 true 1 false a lm = some true := by
          intro lm
          show tallysticklaw15_DiskReads.j0 (99 + 1) f.f0 dst f.f1 true 1 false a lm = some true
          unfold tallysticklaw15_DiskReads.j0
          dsimp only
          rw [if_neg (by decide), if_neg (by decide), if_pos rfl]
          rfl
        rcases rename_put a lw f.f0 dst hRw with ⟨hno, _⟩ | ⟨_, hren⟩ | ⟨x, l1, lm, hren, hx0, hcut2, hput2, hRm⟩
        · exact absurd rfl (hno f hfm)
        · rw [hren, Option.bind_some]
          simp only
          rw [hdel, Option.bind_some]
          simp only
          rw [hread, Option.bind_some]
          simp only
          rw [if_pos trivial, if_pos trivial, if_pos trivial]
          exact hj _
        · rw [hren, Option.bind_some]
          simp only
          rw [hdel, Option.bind_some]
          simp only
          rw [hread, Option.bind_some]
          simp only
          rw [if_pos trivial, if_pos trivial, if_pos trivial]
          show tallysticklaw15_DiskReads.j0 (99 + 1) f.f0 dst f.f1 true 0 false a lm = some true
          unfold tallysticklaw15_DiskReads.j0
          dsimp only
          have hxf : x = f := sorted_one hRw.2.2.2 (cut_get hcut2) hfm hx0
          subst hxf
          have hto : disk_Read.f a lm dst = some (x.f1, 0) := read_mem a hRm.2.2.2 (put_get hput2)
          obtain ⟨t, c, hc⟩ := read_some a hRm.2.2.2 x.f0
          rw [if_neg (by decide), if_pos rfl, hto, Option.bind_some, hc, Option.bind_some, if_pos rfl]
          simp only
          rw [if_pos trivial, if_pos trivial]
          by_cases hst : x.f0.toList = dst.toList
          · rw [if_pos hst]
          · rw [if_neg hst]
            have hne : x.f0 ≠ dst := fun e => hst (by rw [e])
            have hno : ∀ y ∈ lm, y.f0 ≠ x.f0 := by
              intro y hy he
              have h1 : y.f0 ≠ dst := by rw [he]; exact hne
              exact cut_none hcut2 y ((put_mem hput2 h1).2 hy) he
            rw [read_none a hRm.2.2.2 hno] at hc
            injection hc with hc
            injection hc with _ hc
            rw [← hc]
            rfl
      · exact absurd rfl (hno f hfm)
end Go.Proofs.Ytbpobnlkfpjijaa.Pr
