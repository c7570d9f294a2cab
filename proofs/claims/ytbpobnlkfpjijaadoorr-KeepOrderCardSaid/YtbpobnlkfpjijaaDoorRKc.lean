/-
The names of two ranges that begin and end at 0 or above are the same just if the ranges are: proved of tallysticklaw16.KeepOrder for every argument that the row lets in, its three listed tables tied to the program's text (the card).
Conditions: none beside the row's own and the card's ties.
-/
import Derived.Test.YtbpobnlkfpjijaaDoorRKr
/-! The card of KeepOrder. -/
namespace Go.Proofs.YtbpobnlkfpjijaaDoorR
open Go
theorem keepOrder_card : Rows.KeepOrderCardSaid :=
  Claim7.holds_tied_plain_at .later [] [.data, .data, .data] true (true, "91003c44c60357ba5c080ff33add79e9efad2b2e82cd872402a168eeae80b825") true
    keepOrder.proved (fun _ h => by cases h) (by kernel_rfl) (fun _ h => by cases h) keepOrder_row_tie rfl ⟨rfl, rfl⟩ (by kernel_rfl) rfl
    (fun f fn hf hfn => by
      obtain rfl : f = 3 := Option.some.inj ((show Tryd.prog.funcNamed "tallystick/tallysticklaw16.KeepOrder" = some 3 by kernel_rfl).symm.trans hf) |>.symm
      obtain rfl : fn = Tryd.f3 := (Option.some.inj (Tryd.func3.symm.trans hfn)).symm
      exact ⟨by kernel_rfl, fun j t ht => by
        rw [Tryd.params3] at ht
        have hm : t ∈ [23, 23] := by simpa using Array.mem_of_getElem? ht
        have hall : ([23, 23].all fun u => !Tryd.prog.wantsStandIn u) = true := by kernel_rfl
        exact (show Tryd.prog.wantsStandIn t = false by simpa using List.all_eq_true.1 hall t hm)⟩)
    (by kernel_rfl)
#print axioms keepOrder_card
end Go.Proofs.YtbpobnlkfpjijaaDoorR
