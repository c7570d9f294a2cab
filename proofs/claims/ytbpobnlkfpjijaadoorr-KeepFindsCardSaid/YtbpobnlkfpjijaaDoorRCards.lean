/-
  DERIVED. GIVEN WITH THE SEED: THE CARDS: each row of YtbpobnlkfpjijaaDoorRRows.lean that lists a variable, with what it lists TIED to the program's text (the seventh form; the later family's looks); each row that meets fmt, with fmt's text TOLD by the authors' own Lean function (tested against real Go, not proved from fmt's source: count such statements apart). THE CARD IS WHAT COUNTS. Prove the row's statement (the work); the ties are given (YtbpobnlkfpjijaaDoorRTie.lean); close each card by the builder's one call (the guide's Derived/Test/ToyasCard.lean, 'card_holds'). Laid BY PROGRAM, IN A SANDBOX (cutbox-door.mjs). By AI agents, Wed Nov 11 2026. No macro, syntax, notation, axiom, sorry.
-/
import Derived.Test.YtbpobnlkfpjijaaDoorRRows
import GoSem.ClaimSeven
namespace Go.Proofs.YtbpobnlkfpjijaaDoorR
namespace Rows

/-- THE TIED CARD OF 'tallysticklaw16.KeepOrder'. -/
def keepOrderCard : Claim7 := { stood := { row := keepOrderRow, standIns := [], harness := (true, "91003c44c60357ba5c080ff33add79e9efad2b2e82cd872402a168eeae80b825"), looks := true }, kinds := [], alts := [], laidByText := true, laidKinds := [.data, .data, .data], laidTests := true, laidLooks := .later }
def KeepOrderCardSaid : Prop := Claim7.holds Tryd.pinned (.plain (OpenSpec.ofChange keepOrderSpec)) keepOrderCard

/-- THE TIED CARD OF 'tallysticklaw16.KeepFinds'. -/
def keepFindsCard : Claim7 := { stood := { row := keepFindsRow, standIns := [], harness := (true, "91003c44c60357ba5c080ff33add79e9efad2b2e82cd872402a168eeae80b825"), looks := true }, kinds := [], alts := [], laidByText := true, laidKinds := [.data, .data, .data, .handle], laidTests := true, laidLooks := .later }
def KeepFindsCardSaid : Prop := Claim7.holds Tryd.pinned (.plain (OpenSpec.ofChange keepFindsSpec)) keepFindsCard

/-- THE SECOND FORM's CARD OF 'tallysticklaw16.KeepOrder'. -/
def keepOrderUptoCard : Claim7 := { stood := { row := keepOrderUptoRow, standIns := [], harness := (true, "91003c44c60357ba5c080ff33add79e9efad2b2e82cd872402a168eeae80b825"), looks := true }, kinds := [], alts := [], laidByText := true, laidKinds := [.data, .data, .data], laidTests := true, laidLooks := .later }
def KeepOrderUptoCardSaid : Prop := Claim7.holds Tryd.pinned (.plain (OpenSpec.upto keepOrderSpec)) keepOrderUptoCard

/-- THE SECOND FORM's CARD OF 'tallysticklaw16.KeepFinds'. -/
def keepFindsUptoCard : Claim7 := { stood := { row := keepFindsUptoRow, standIns := [], harness := (true, "91003c44c60357ba5c080ff33add79e9efad2b2e82cd872402a168eeae80b825"), looks := true }, kinds := [], alts := [], laidByText := true, laidKinds := [.data, .data, .data, .handle], laidTests := true, laidLooks := .later }
def KeepFindsUptoCardSaid : Prop := Claim7.holds Tryd.pinned (.plain (OpenSpec.upto keepFindsSpec)) keepFindsUptoCard
end Rows
end Go.Proofs.YtbpobnlkfpjijaaDoorR
