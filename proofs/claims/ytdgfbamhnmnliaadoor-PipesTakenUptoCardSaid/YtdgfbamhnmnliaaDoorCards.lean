/-
  DERIVED. GIVEN WITH THE SEED: THE CARDS: each row of YtdgfbamhnmnliaaDoorRows.lean that lists a variable, with what it lists TIED to the program's text (the seventh form; the later family's looks); each row that meets fmt, with fmt's text TOLD by the authors' own Lean function (tested against real Go, not proved from fmt's source: count such statements apart). THE CARD IS WHAT COUNTS. Prove the row's statement (the work); the ties are given (YtdgfbamhnmnliaaDoorTie.lean); close each card by the builder's one call (the guide's Derived/Test/ToyasCard.lean, 'card_holds'). Laid BY PROGRAM, IN A SANDBOX (cutbox-door.mjs). By AI agents, Wed Nov 11 2026. No macro, syntax, notation, axiom, sorry.
-/
import Derived.Test.YtdgfbamhnmnliaaDoorRows
import GoSem.ClaimSeven
namespace Go.Proofs.YtdgfbamhnmnliaaDoor
namespace Rows

/-- THE TIED CARD OF 'culletlaw22.PipesCopies'. -/
def pipesCopiesCard : Claim7 := { stood := { row := pipesCopiesRow, standIns := [], harness := (true, "a4190c02faa827d39f381c72abff46faa890fe86ae17e3536cba5519f48c3037"), looks := true }, kinds := [], alts := [], laidByText := true, laidKinds := [.sentinel], laidTests := true, laidLooks := .later }
def PipesCopiesCardSaid : Prop := Claim7.holds Tryd.pinned (.plain (OpenSpec.ofChange pipesCopiesSpec)) pipesCopiesCard

/-- THE TIED CARD OF 'culletlaw22.PipesNilInside'. -/
def pipesNilInsideCard : Claim7 := { stood := { row := pipesNilInsideRow, standIns := [], harness := (true, "a4190c02faa827d39f381c72abff46faa890fe86ae17e3536cba5519f48c3037"), looks := true }, kinds := [], alts := [], laidByText := true, laidKinds := [.sentinel], laidTests := true, laidLooks := .later }
def PipesNilInsideCardSaid : Prop := Claim7.holds Tryd.pinned (.plain (OpenSpec.ofChange pipesNilInsideSpec)) pipesNilInsideCard

/-- THE TIED CARD OF 'culletlaw22.PipesTaken'. -/
def pipesTakenCard : Claim7 := { stood := { row := pipesTakenRow, standIns := [], harness := (true, "a4190c02faa827d39f381c72abff46faa890fe86ae17e3536cba5519f48c3037"), looks := true }, kinds := [], alts := [], laidByText := true, laidKinds := [.sentinel], laidTests := true, laidLooks := .later }
def PipesTakenCardSaid : Prop := Claim7.holds Tryd.pinned (.plain (OpenSpec.ofChange pipesTakenSpec)) pipesTakenCard

/-- THE TIED CARD OF 'culletlaw22.PipesPieces'. -/
def pipesPiecesCard : Claim7 := { stood := { row := pipesPiecesRow, standIns := [], harness := (true, "a4190c02faa827d39f381c72abff46faa890fe86ae17e3536cba5519f48c3037"), looks := true }, kinds := [], alts := [], laidByText := true, laidKinds := [.sentinel], laidTests := true, laidLooks := .later }
def PipesPiecesCardSaid : Prop := Claim7.holds Tryd.pinned (.plain (OpenSpec.ofChange pipesPiecesSpec)) pipesPiecesCard

/-- THE TIED CARD OF 'culletlaw22.PipesNil'. -/
def pipesNilCard : Claim7 := { stood := { row := pipesNilRow, standIns := [], harness := (true, "a4190c02faa827d39f381c72abff46faa890fe86ae17e3536cba5519f48c3037"), looks := true }, kinds := [], alts := [], laidByText := true, laidKinds := [.sentinel], laidTests := true, laidLooks := .later }
def PipesNilCardSaid : Prop := Claim7.holds Tryd.pinned (.plain (OpenSpec.ofChange pipesNilSpec)) pipesNilCard

/-- THE TIED CARD OF 'culletlaw22.PipesNames'. -/
def pipesNamesCard : Claim7 := { stood := { row := pipesNamesRow, standIns := [], harness := (true, "a4190c02faa827d39f381c72abff46faa890fe86ae17e3536cba5519f48c3037"), looks := true }, kinds := [], alts := [], laidByText := true, laidKinds := [.data, .data, .data, .sentinel], laidTests := true, laidLooks := .later }
def PipesNamesCardSaid : Prop := Claim7.holds Tryd.pinned (.plain (OpenSpec.ofChange pipesNamesSpec)) pipesNamesCard

/-- THE SECOND FORM's CARD OF 'culletlaw22.PipesCopies'. -/
def pipesCopiesUptoCard : Claim7 := { stood := { row := pipesCopiesUptoRow, standIns := [], harness := (true, "a4190c02faa827d39f381c72abff46faa890fe86ae17e3536cba5519f48c3037"), looks := true }, kinds := [], alts := [], laidByText := true, laidKinds := [.sentinel], laidTests := true, laidLooks := .later }
def PipesCopiesUptoCardSaid : Prop := Claim7.holds Tryd.pinned (.plain (OpenSpec.upto pipesCopiesSpec)) pipesCopiesUptoCard

/-- THE SECOND FORM's CARD OF 'culletlaw22.PipesNilInside'. -/
def pipesNilInsideUptoCard : Claim7 := { stood := { row := pipesNilInsideUptoRow, standIns := [], harness := (true, "a4190c02faa827d39f381c72abff46faa890fe86ae17e3536cba5519f48c3037"), looks := true }, kinds := [], alts := [], laidByText := true, laidKinds := [.sentinel], laidTests := true, laidLooks := .later }
def PipesNilInsideUptoCardSaid : Prop := Claim7.holds Tryd.pinned (.plain (OpenSpec.upto pipesNilInsideSpec)) pipesNilInsideUptoCard

/-- THE SECOND FORM's CARD OF 'culletlaw22.PipesTaken'. -/
def pipesTakenUptoCard : Claim7 := { stood := { row := pipesTakenUptoRow, standIns := [], harness := (true, "a4190c02faa827d39f381c72abff46faa890fe86ae17e3536cba5519f48c3037"), looks := true }, kinds := [], alts := [], laidByText := true, laidKinds := [.sentinel], laidTests := true, laidLooks := .later }
def PipesTakenUptoCardSaid : Prop := Claim7.holds Tryd.pinned (.plain (OpenSpec.upto pipesTakenSpec)) pipesTakenUptoCard

/-- THE SECOND FORM's CARD OF 'culletlaw22.PipesPieces'. -/
def pipesPiecesUptoCard : Claim7 := { stood := { row := pipesPiecesUptoRow, standIns := [], harness := (true, "a4190c02faa827d39f381c72abff46faa890fe86ae17e3536cba5519f48c3037"), looks := true }, kinds := [], alts := [], laidByText := true, laidKinds := [.sentinel], laidTests := true, laidLooks := .later }
def PipesPiecesUptoCardSaid : Prop := Claim7.holds Tryd.pinned (.plain (OpenSpec.upto pipesPiecesSpec)) pipesPiecesUptoCard

/-- THE SECOND FORM's CARD OF 'culletlaw22.PipesNil'. -/
def pipesNilUptoCard : Claim7 := { stood := { row := pipesNilUptoRow, standIns := [], harness := (true, "a4190c02faa827d39f381c72abff46faa890fe86ae17e3536cba5519f48c3037"), looks := true }, kinds := [], alts := [], laidByText := true, laidKinds := [.sentinel], laidTests := true, laidLooks := .later }
def PipesNilUptoCardSaid : Prop := Claim7.holds Tryd.pinned (.plain (OpenSpec.upto pipesNilSpec)) pipesNilUptoCard

/-- THE SECOND FORM's CARD OF 'culletlaw22.PipesNames'. -/
def pipesNamesUptoCard : Claim7 := { stood := { row := pipesNamesUptoRow, standIns := [], harness := (true, "a4190c02faa827d39f381c72abff46faa890fe86ae17e3536cba5519f48c3037"), looks := true }, kinds := [], alts := [], laidByText := true, laidKinds := [.data, .data, .data, .sentinel], laidTests := true, laidLooks := .later }
def PipesNamesUptoCardSaid : Prop := Claim7.holds Tryd.pinned (.plain (OpenSpec.upto pipesNamesSpec)) pipesNamesUptoCard
end Rows
end Go.Proofs.YtdgfbamhnmnliaaDoor
