/-
  DERIVED. GIVEN WITH THE SEED: THE CARDS: each row of YtgakfgedaipdmaaGreatDoorRows.lean that lists a variable, with what it lists TIED to the program's text (the seventh form; the later family's looks); each row that meets fmt, with fmt's text TOLD by the authors' own Lean function (tested against real Go, not proved from fmt's source: count such statements apart). THE CARD IS WHAT COUNTS. Prove the row's statement (the work); the ties are given (YtgakfgedaipdmaaGreatDoorTie.lean); close each card by the builder's one call (the guide's Derived/Test/ToyasCard.lean, 'card_holds'). Laid BY PROGRAM, IN A SANDBOX (cutbox-door.mjs). By AI agents, Wed Nov 11 2026. No macro, syntax, notation, axiom, sorry.
-/
import Derived.Test.YtgakfgedaipdmaaGreatDoorRows
import GoSem.ClaimSeven
namespace Go.Proofs.YtgakfgedaipdmaaGreatDoor
namespace Rows

/-- THE TIED CARD OF 'acreagelaw05.WheelConstants'. -/
def wheelConstantsCard : Claim7 := { stood := { row := wheelConstantsRow, standIns := [], harness := (true, "225888ce6ac7e4e564c1c4498fa141e5c1eba157ce129f3865dca58354bbf5c4"), looks := false }, kinds := [], alts := [], laidByText := true, laidKinds := [.data, .data, .data], laidTests := true, laidLooks := .later }
def WheelConstantsCardSaid : Prop := Claim7.holds Tryz.pinned (.plain (OpenSpec.ofChange wheelConstantsSpec)) wheelConstantsCard

/-- THE TIED CARD OF 'acreagelaw05.WheelCases'. -/
def wheelCasesCard : Claim7 := { stood := { row := wheelCasesRow, standIns := [], harness := (true, "225888ce6ac7e4e564c1c4498fa141e5c1eba157ce129f3865dca58354bbf5c4"), looks := false }, kinds := [], alts := [], laidByText := true, laidKinds := [.data, .data, .data], laidTests := true, laidLooks := .later }
def WheelCasesCardSaid : Prop := Claim7.holds Tryz.pinned (.plain (OpenSpec.ofChange wheelCasesSpec)) wheelCasesCard

/-- THE TIED CARD OF 'acreagelaw05.WheelFields'. -/
def wheelFieldsCard : Claim7 := { stood := { row := wheelFieldsRow, standIns := [], harness := (true, "225888ce6ac7e4e564c1c4498fa141e5c1eba157ce129f3865dca58354bbf5c4"), looks := false }, kinds := [], alts := [], laidByText := true, laidKinds := [.data, .data, .data], laidTests := true, laidLooks := .later }
def WheelFieldsCardSaid : Prop := Claim7.holds Tryz.pinned (.plain (OpenSpec.ofChange wheelFieldsSpec)) wheelFieldsCard

/-- THE TIED CARD OF 'acreagelaw05.WheelTogether'. -/
def wheelTogetherCard : Claim7 := { stood := { row := wheelTogetherRow, standIns := [], harness := (true, "225888ce6ac7e4e564c1c4498fa141e5c1eba157ce129f3865dca58354bbf5c4"), looks := false }, kinds := [], alts := [], laidByText := true, laidKinds := [.data, .data, .data], laidTests := true, laidLooks := .later }
def WheelTogetherCardSaid : Prop := Claim7.holds Tryz.pinned (.plain (OpenSpec.ofChange wheelTogetherSpec)) wheelTogetherCard

/-- THE TIED CARD OF 'acreagelaw05.WheelOrder'. -/
def wheelOrderCard : Claim7 := { stood := { row := wheelOrderRow, standIns := [], harness := (true, "225888ce6ac7e4e564c1c4498fa141e5c1eba157ce129f3865dca58354bbf5c4"), looks := false }, kinds := [], alts := [], laidByText := true, laidKinds := [.data, .data, .data], laidTests := true, laidLooks := .later }
def WheelOrderCardSaid : Prop := Claim7.holds Tryz.pinned (.plain (OpenSpec.ofChange wheelOrderSpec)) wheelOrderCard

/-- THE TIED CARD OF 'acreagelaw05.WheelExact'. -/
def wheelExactCard : Claim7 := { stood := { row := wheelExactRow, standIns := [], harness := (true, "225888ce6ac7e4e564c1c4498fa141e5c1eba157ce129f3865dca58354bbf5c4"), looks := false }, kinds := [], alts := [], laidByText := true, laidKinds := [.data, .data, .data], laidTests := true, laidLooks := .later }
def WheelExactCardSaid : Prop := Claim7.holds Tryz.pinned (.plain (OpenSpec.ofChange wheelExactSpec)) wheelExactCard

/-- THE TIED CARD OF 'acreagelaw05.WheelCircuits'. -/
def wheelCircuitsCard : Claim7 := { stood := { row := wheelCircuitsRow, standIns := [], harness := (true, "225888ce6ac7e4e564c1c4498fa141e5c1eba157ce129f3865dca58354bbf5c4"), looks := false }, kinds := [], alts := [], laidByText := true, laidKinds := [.data, .data, .data], laidTests := true, laidLooks := .later }
def WheelCircuitsCardSaid : Prop := Claim7.holds Tryz.pinned (.plain (OpenSpec.ofChange wheelCircuitsSpec)) wheelCircuitsCard

/-- THE TIED CARD OF 'acreagelaw05.WheelMore'. -/
def wheelMoreCard : Claim7 := { stood := { row := wheelMoreRow, standIns := [], harness := (true, "225888ce6ac7e4e564c1c4498fa141e5c1eba157ce129f3865dca58354bbf5c4"), looks := false }, kinds := [], alts := [], laidByText := true, laidKinds := [.data, .data, .data], laidTests := true, laidLooks := .later }
def WheelMoreCardSaid : Prop := Claim7.holds Tryz.pinned (.plain (OpenSpec.ofChange wheelMoreSpec)) wheelMoreCard

/-- THE TIED CARD OF 'acreagelaw05.WheelClashes'. -/
def wheelClashesCard : Claim7 := { stood := { row := wheelClashesRow, standIns := [], harness := (true, "225888ce6ac7e4e564c1c4498fa141e5c1eba157ce129f3865dca58354bbf5c4"), looks := false }, kinds := [], alts := [], laidByText := true, laidKinds := [.data, .data, .data], laidTests := true, laidLooks := .later }
def WheelClashesCardSaid : Prop := Claim7.holds Tryz.pinned (.plain (OpenSpec.ofChange wheelClashesSpec)) wheelClashesCard

/-- THE TIED CARD OF 'acreagelaw05.WheelMinimal'. -/
def wheelMinimalCard : Claim7 := { stood := { row := wheelMinimalRow, standIns := [], harness := (true, "225888ce6ac7e4e564c1c4498fa141e5c1eba157ce129f3865dca58354bbf5c4"), looks := false }, kinds := [], alts := [], laidByText := true, laidKinds := [.data, .data, .data], laidTests := true, laidLooks := .later }
def WheelMinimalCardSaid : Prop := Claim7.holds Tryz.pinned (.plain (OpenSpec.ofChange wheelMinimalSpec)) wheelMinimalCard

/-- THE TIED CARD OF 'acreagelaw05.WheelOne'. -/
def wheelOneCard : Claim7 := { stood := { row := wheelOneRow, standIns := [], harness := (true, "225888ce6ac7e4e564c1c4498fa141e5c1eba157ce129f3865dca58354bbf5c4"), looks := false }, kinds := [], alts := [], laidByText := true, laidKinds := [.data, .data, .data], laidTests := true, laidLooks := .later }
def WheelOneCardSaid : Prop := Claim7.holds Tryz.pinned (.plain (OpenSpec.ofChange wheelOneSpec)) wheelOneCard

/-- THE SECOND FORM's CARD OF 'acreagelaw05.WheelConstants'. -/
def wheelConstantsUptoCard : Claim7 := { stood := { row := wheelConstantsUptoRow, standIns := [], harness := (true, "225888ce6ac7e4e564c1c4498fa141e5c1eba157ce129f3865dca58354bbf5c4"), looks := false }, kinds := [], alts := [], laidByText := true, laidKinds := [.data, .data, .data], laidTests := true, laidLooks := .later }
def WheelConstantsUptoCardSaid : Prop := Claim7.holds Tryz.pinned (.plain (OpenSpec.upto wheelConstantsSpec)) wheelConstantsUptoCard

/-- THE SECOND FORM's CARD OF 'acreagelaw05.WheelCases'. -/
def wheelCasesUptoCard : Claim7 := { stood := { row := wheelCasesUptoRow, standIns := [], harness := (true, "225888ce6ac7e4e564c1c4498fa141e5c1eba157ce129f3865dca58354bbf5c4"), looks := false }, kinds := [], alts := [], laidByText := true, laidKinds := [.data, .data, .data], laidTests := true, laidLooks := .later }
def WheelCasesUptoCardSaid : Prop := Claim7.holds Tryz.pinned (.plain (OpenSpec.upto wheelCasesSpec)) wheelCasesUptoCard

/-- THE SECOND FORM's CARD OF 'acreagelaw05.WheelFields'. -/
def wheelFieldsUptoCard : Claim7 := { stood := { row := wheelFieldsUptoRow, standIns := [], harness := (true, "225888ce6ac7e4e564c1c4498fa141e5c1eba157ce129f3865dca58354bbf5c4"), looks := false }, kinds := [], alts := [], laidByText := true, laidKinds := [.data, .data, .data], laidTests := true, laidLooks := .later }
def WheelFieldsUptoCardSaid : Prop := Claim7.holds Tryz.pinned (.plain (OpenSpec.upto wheelFieldsSpec)) wheelFieldsUptoCard

/-- THE SECOND FORM's CARD OF 'acreagelaw05.WheelTogether'. -/
def wheelTogetherUptoCard : Claim7 := { stood := { row := wheelTogetherUptoRow, standIns := [], harness := (true, "225888ce6ac7e4e564c1c4498fa141e5c1eba157ce129f3865dca58354bbf5c4"), looks := false }, kinds := [], alts := [], laidByText := true, laidKinds := [.data, .data, .data], laidTests := true, laidLooks := .later }
def WheelTogetherUptoCardSaid : Prop := Claim7.holds Tryz.pinned (.plain (OpenSpec.upto wheelTogetherSpec)) wheelTogetherUptoCard

/-- THE SECOND FORM's CARD OF 'acreagelaw05.WheelOrder'. -/
def wheelOrderUptoCard : Claim7 := { stood := { row := wheelOrderUptoRow, standIns := [], harness := (true, "225888ce6ac7e4e564c1c4498fa141e5c1eba157ce129f3865dca58354bbf5c4"), looks := false }, kinds := [], alts := [], laidByText := true, laidKinds := [.data, .data, .data], laidTests := true, laidLooks := .later }
def WheelOrderUptoCardSaid : Prop := Claim7.holds Tryz.pinned (.plain (OpenSpec.upto wheelOrderSpec)) wheelOrderUptoCard

/-- THE SECOND FORM's CARD OF 'acreagelaw05.WheelExact'. -/
def wheelExactUptoCard : Claim7 := { stood := { row := wheelExactUptoRow, standIns := [], harness := (true, "225888ce6ac7e4e564c1c4498fa141e5c1eba157ce129f3865dca58354bbf5c4"), looks := false }, kinds := [], alts := [], laidByText := true, laidKinds := [.data, .data, .data], laidTests := true, laidLooks := .later }
def WheelExactUptoCardSaid : Prop := Claim7.holds Tryz.pinned (.plain (OpenSpec.upto wheelExactSpec)) wheelExactUptoCard

/-- THE SECOND FORM's CARD OF 'acreagelaw05.WheelCircuits'. -/
def wheelCircuitsUptoCard : Claim7 := { stood := { row := wheelCircuitsUptoRow, standIns := [], harness := (true, "225888ce6ac7e4e564c1c4498fa141e5c1eba157ce129f3865dca58354bbf5c4"), looks := false }, kinds := [], alts := [], laidByText := true, laidKinds := [.data, .data, .data], laidTests := true, laidLooks := .later }
def WheelCircuitsUptoCardSaid : Prop := Claim7.holds Tryz.pinned (.plain (OpenSpec.upto wheelCircuitsSpec)) wheelCircuitsUptoCard

/-- THE SECOND FORM's CARD OF 'acreagelaw05.WheelMore'. -/
def wheelMoreUptoCard : Claim7 := { stood := { row := wheelMoreUptoRow, standIns := [], harness := (true, "225888ce6ac7e4e564c1c4498fa141e5c1eba157ce129f3865dca58354bbf5c4"), looks := false }, kinds := [], alts := [], laidByText := true, laidKinds := [.data, .data, .data], laidTests := true, laidLooks := .later }
def WheelMoreUptoCardSaid : Prop := Claim7.holds Tryz.pinned (.plain (OpenSpec.upto wheelMoreSpec)) wheelMoreUptoCard

/-- THE SECOND FORM's CARD OF 'acreagelaw05.WheelClashes'. -/
def wheelClashesUptoCard : Claim7 := { stood := { row := wheelClashesUptoRow, standIns := [], harness := (true, "225888ce6ac7e4e564c1c4498fa141e5c1eba157ce129f3865dca58354bbf5c4"), looks := false }, kinds := [], alts := [], laidByText := true, laidKinds := [.data, .data, .data], laidTests := true, laidLooks := .later }
def WheelClashesUptoCardSaid : Prop := Claim7.holds Tryz.pinned (.plain (OpenSpec.upto wheelClashesSpec)) wheelClashesUptoCard

/-- THE SECOND FORM's CARD OF 'acreagelaw05.WheelMinimal'. -/
def wheelMinimalUptoCard : Claim7 := { stood := { row := wheelMinimalUptoRow, standIns := [], harness := (true, "225888ce6ac7e4e564c1c4498fa141e5c1eba157ce129f3865dca58354bbf5c4"), looks := false }, kinds := [], alts := [], laidByText := true, laidKinds := [.data, .data, .data], laidTests := true, laidLooks := .later }
def WheelMinimalUptoCardSaid : Prop := Claim7.holds Tryz.pinned (.plain (OpenSpec.upto wheelMinimalSpec)) wheelMinimalUptoCard

/-- THE SECOND FORM's CARD OF 'acreagelaw05.WheelOne'. -/
def wheelOneUptoCard : Claim7 := { stood := { row := wheelOneUptoRow, standIns := [], harness := (true, "225888ce6ac7e4e564c1c4498fa141e5c1eba157ce129f3865dca58354bbf5c4"), looks := false }, kinds := [], alts := [], laidByText := true, laidKinds := [.data, .data, .data], laidTests := true, laidLooks := .later }
def WheelOneUptoCardSaid : Prop := Claim7.holds Tryz.pinned (.plain (OpenSpec.upto wheelOneSpec)) wheelOneUptoCard
end Rows
end Go.Proofs.YtgakfgedaipdmaaGreatDoor
