/-
  DERIVED. GIVEN WITH THE SEED: THE CARDS: each row of YthldahaimcdejaaDoorRows.lean that lists a variable, with what it lists TIED to the program's text (the seventh form; the later family's looks); each row that meets fmt, with fmt's text TOLD by the authors' own Lean function (tested against real Go, not proved from fmt's source: count such statements apart). THE CARD IS WHAT COUNTS. Prove the row's statement (the work); the ties are given (YthldahaimcdejaaDoorTie.lean); close each card by the builder's one call (the guide's Derived/Test/ToyasCard.lean, 'card_holds'). Laid BY PROGRAM, IN A SANDBOX (cutbox-door.mjs). By AI agents, Wed Nov 11 2026. No macro, syntax, notation, axiom, sorry.
-/
import Derived.Test.YthldahaimcdejaaDoorRows
import GoSem.ClaimSeven
namespace Go.Proofs.YthldahaimcdejaaDoor
namespace Rows

/-- THE TIED CARD OF 'culletlaw01.RingProducts'. -/
def ringProductsCard : Claim7 := { stood := { row := ringProductsRow, standIns := [], harness := (true, "7f99be2c48352895210799d3a3ffd27bac29acd60ad11d407d04c8bd704a2117"), looks := false }, kinds := [], alts := [], laidByText := true, laidKinds := [.data, .data, .data], laidTests := true, laidLooks := .later }
def RingProductsCardSaid : Prop := Claim7.holds Tryd.pinned (.plain (OpenSpec.ofChange ringProductsSpec)) ringProductsCard

/-- THE TIED CARD OF 'culletlaw01.RingCommon'. -/
def ringCommonCard : Claim7 := { stood := { row := ringCommonRow, standIns := [], harness := (true, "7f99be2c48352895210799d3a3ffd27bac29acd60ad11d407d04c8bd704a2117"), looks := false }, kinds := [], alts := [], laidByText := true, laidKinds := [.data, .data, .data], laidTests := true, laidLooks := .later }
def RingCommonCardSaid : Prop := Claim7.holds Tryd.pinned (.plain (OpenSpec.ofChange ringCommonSpec)) ringCommonCard

/-- THE TIED CARD OF 'culletlaw01.RingResidues'. -/
def ringResiduesCard : Claim7 := { stood := { row := ringResiduesRow, standIns := [], harness := (true, "7f99be2c48352895210799d3a3ffd27bac29acd60ad11d407d04c8bd704a2117"), looks := false }, kinds := [], alts := [], laidByText := true, laidKinds := [.data, .data, .data], laidTests := true, laidLooks := .later }
def RingResiduesCardSaid : Prop := Claim7.holds Tryd.pinned (.plain (OpenSpec.ofChange ringResiduesSpec)) ringResiduesCard

/-- THE TIED CARD OF 'culletlaw01.RingKinds'. -/
def ringKindsCard : Claim7 := { stood := { row := ringKindsRow, standIns := [], harness := (true, "7f99be2c48352895210799d3a3ffd27bac29acd60ad11d407d04c8bd704a2117"), looks := false }, kinds := [], alts := [], laidByText := true, laidKinds := [.data, .data, .data], laidTests := true, laidLooks := .later }
def RingKindsCardSaid : Prop := Claim7.holds Tryd.pinned (.plain (OpenSpec.ofChange ringKindsSpec)) ringKindsCard

/-- THE TIED CARD OF 'culletlaw01.RingTexts'. -/
def ringTextsCard : Claim7 := { stood := { row := ringTextsRow, standIns := [], harness := (true, "7f99be2c48352895210799d3a3ffd27bac29acd60ad11d407d04c8bd704a2117"), looks := false }, kinds := [], alts := [], laidByText := true, laidKinds := [.data, .data, .data], laidTests := true, laidLooks := .later }
def RingTextsCardSaid : Prop := Claim7.holds Tryd.pinned (.plain (OpenSpec.ofChange ringTextsSpec)) ringTextsCard

/-- THE TIED CARD OF 'culletlaw01.RingAll'. -/
def ringAllCard : Claim7 := { stood := { row := ringAllRow, standIns := [], harness := (true, "7f99be2c48352895210799d3a3ffd27bac29acd60ad11d407d04c8bd704a2117"), looks := false }, kinds := [], alts := [], laidByText := true, laidKinds := [.data, .data, .data], laidTests := true, laidLooks := .later }
def RingAllCardSaid : Prop := Claim7.holds Tryd.pinned (.plain (OpenSpec.ofChange ringAllSpec)) ringAllCard

/-- THE SECOND FORM's CARD OF 'culletlaw01.RingProducts'. -/
def ringProductsUptoCard : Claim7 := { stood := { row := ringProductsUptoRow, standIns := [], harness := (true, "7f99be2c48352895210799d3a3ffd27bac29acd60ad11d407d04c8bd704a2117"), looks := false }, kinds := [], alts := [], laidByText := true, laidKinds := [.data, .data, .data], laidTests := true, laidLooks := .later }
def RingProductsUptoCardSaid : Prop := Claim7.holds Tryd.pinned (.plain (OpenSpec.upto ringProductsSpec)) ringProductsUptoCard

/-- THE SECOND FORM's CARD OF 'culletlaw01.RingCommon'. -/
def ringCommonUptoCard : Claim7 := { stood := { row := ringCommonUptoRow, standIns := [], harness := (true, "7f99be2c48352895210799d3a3ffd27bac29acd60ad11d407d04c8bd704a2117"), looks := false }, kinds := [], alts := [], laidByText := true, laidKinds := [.data, .data, .data], laidTests := true, laidLooks := .later }
def RingCommonUptoCardSaid : Prop := Claim7.holds Tryd.pinned (.plain (OpenSpec.upto ringCommonSpec)) ringCommonUptoCard

/-- THE SECOND FORM's CARD OF 'culletlaw01.RingResidues'. -/
def ringResiduesUptoCard : Claim7 := { stood := { row := ringResiduesUptoRow, standIns := [], harness := (true, "7f99be2c48352895210799d3a3ffd27bac29acd60ad11d407d04c8bd704a2117"), looks := false }, kinds := [], alts := [], laidByText := true, laidKinds := [.data, .data, .data], laidTests := true, laidLooks := .later }
def RingResiduesUptoCardSaid : Prop := Claim7.holds Tryd.pinned (.plain (OpenSpec.upto ringResiduesSpec)) ringResiduesUptoCard

/-- THE SECOND FORM's CARD OF 'culletlaw01.RingKinds'. -/
def ringKindsUptoCard : Claim7 := { stood := { row := ringKindsUptoRow, standIns := [], harness := (true, "7f99be2c48352895210799d3a3ffd27bac29acd60ad11d407d04c8bd704a2117"), looks := false }, kinds := [], alts := [], laidByText := true, laidKinds := [.data, .data, .data], laidTests := true, laidLooks := .later }
def RingKindsUptoCardSaid : Prop := Claim7.holds Tryd.pinned (.plain (OpenSpec.upto ringKindsSpec)) ringKindsUptoCard

/-- THE SECOND FORM's CARD OF 'culletlaw01.RingTexts'. -/
def ringTextsUptoCard : Claim7 := { stood := { row := ringTextsUptoRow, standIns := [], harness := (true, "7f99be2c48352895210799d3a3ffd27bac29acd60ad11d407d04c8bd704a2117"), looks := false }, kinds := [], alts := [], laidByText := true, laidKinds := [.data, .data, .data], laidTests := true, laidLooks := .later }
def RingTextsUptoCardSaid : Prop := Claim7.holds Tryd.pinned (.plain (OpenSpec.upto ringTextsSpec)) ringTextsUptoCard

/-- THE SECOND FORM's CARD OF 'culletlaw01.RingAll'. -/
def ringAllUptoCard : Claim7 := { stood := { row := ringAllUptoRow, standIns := [], harness := (true, "7f99be2c48352895210799d3a3ffd27bac29acd60ad11d407d04c8bd704a2117"), looks := false }, kinds := [], alts := [], laidByText := true, laidKinds := [.data, .data, .data], laidTests := true, laidLooks := .later }
def RingAllUptoCardSaid : Prop := Claim7.holds Tryd.pinned (.plain (OpenSpec.upto ringAllSpec)) ringAllUptoCard
end Rows
end Go.Proofs.YthldahaimcdejaaDoor
