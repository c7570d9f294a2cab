/-
The parts that keep.Find finds on a right disk are the document's: proved of tallysticklaw16.KeepFinds for every argument that the row lets in, its four listed variables tied to the program's text (the card).
Conditions: none beside the row's own and the card's ties.
-/
import Derived.Test.YtbpobnlkfpjijaaDoorRY5
/-! The card of KeepFinds. -/
namespace Go.Proofs.YtbpobnlkfpjijaaDoorR
open Go
theorem keepFinds_card : Rows.KeepFindsCardSaid :=
  Claim7.holds_tied_plain_at .later [] [.data, .data, .data, .handle] true (true, "91003c44c60357ba5c080ff33add79e9efad2b2e82cd872402a168eeae80b825") true
    keepFinds.proved (fun _ h => by cases h) (by kernel_rfl) (fun _ h => by cases h) keepFinds_row_tie rfl ⟨rfl, rfl⟩ (by kernel_rfl) rfl
    (fun f fn hf hfn => by
      obtain rfl : f = 4 := Option.some.inj ((show Tryd.prog.funcNamed "tallystick/tallysticklaw16.KeepFinds" = some 4 by kernel_rfl).symm.trans hf) |>.symm
      obtain rfl : fn = Tryd.f4 := (Option.some.inj (Tryd.func4.symm.trans hfn)).symm
      exact ⟨by kernel_rfl, fun j t ht => by
        rw [Tryd.params4] at ht
        have hm : t ∈ [29, 31] := by simpa using Array.mem_of_getElem? ht
        have hall : ([29, 31].all fun u => !Tryd.prog.wantsStandIn u) = true := by kernel_rfl
        exact (show Tryd.prog.wantsStandIn t = false by simpa using List.all_eq_true.1 hall t hm)⟩)
    (by kernel_rfl)
#print axioms keepFinds_card
end Go.Proofs.YtbpobnlkfpjijaaDoorR
