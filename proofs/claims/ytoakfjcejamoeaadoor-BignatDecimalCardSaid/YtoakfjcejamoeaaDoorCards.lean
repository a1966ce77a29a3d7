/-
  DERIVED. GIVEN WITH THE SEED: THE CARDS: each row of YtoakfjcejamoeaaDoorRows.lean that lists a variable, with what it lists TIED to the program's text (the seventh form; the later family's looks); each row that meets fmt, with fmt's text TOLD by the authors' own Lean function (tested against real Go, not proved from fmt's source: count such statements apart). THE CARD IS WHAT COUNTS. Prove the row's statement (the work); the ties are given (YtoakfjcejamoeaaDoorTie.lean); close each card by the builder's one call (the guide's Derived/Test/ToyasCard.lean, 'card_holds'). Laid BY PROGRAM, IN A SANDBOX (cutbox-door.mjs). By AI agents, Wed Nov 11 2026. No macro, syntax, notation, axiom, sorry.
-/
import Derived.Test.YtoakfjcejamoeaaDoorRows
import GoSem.ClaimSeven
namespace Go.Proofs.YtoakfjcejamoeaaDoor
namespace Rows

/-- THE TIED CARD OF 'lineagelaw03.BignatMul'. -/
def bignatMulCard : Claim7 := { stood := { row := bignatMulRow, standIns := [], harness := (true, "f56b4928866cfcbbfe215d8ea9f97919b09d1fc9802293642ec8c4c3ee8a4794"), looks := true }, kinds := [], alts := [], laidByText := true, laidKinds := [.data, .data, .data], laidTests := true, laidLooks := .later }
def BignatMulCardSaid : Prop := Claim7.holds Tryd.pinned (.plain (OpenSpec.ofChange bignatMulSpec)) bignatMulCard

/-- THE TIED CARD OF 'lineagelaw03.BignatRing'. -/
def bignatRingCard : Claim7 := { stood := { row := bignatRingRow, standIns := [], harness := (true, "f56b4928866cfcbbfe215d8ea9f97919b09d1fc9802293642ec8c4c3ee8a4794"), looks := true }, kinds := [], alts := [], laidByText := true, laidKinds := [.data, .data, .data], laidTests := true, laidLooks := .later }
def BignatRingCardSaid : Prop := Claim7.holds Tryd.pinned (.plain (OpenSpec.ofChange bignatRingSpec)) bignatRingCard

/-- THE TIED CARD OF 'lineagelaw03.BignatDivMod'. -/
def bignatDivModCard : Claim7 := { stood := { row := bignatDivModRow, standIns := [], harness := (true, "f56b4928866cfcbbfe215d8ea9f97919b09d1fc9802293642ec8c4c3ee8a4794"), looks := true }, kinds := [], alts := [], laidByText := true, laidKinds := [.data, .data, .data], laidTests := true, laidLooks := .later }
def BignatDivModCardSaid : Prop := Claim7.holds Tryd.pinned (.plain (OpenSpec.ofChange bignatDivModSpec)) bignatDivModCard

/-- THE TIED CARD OF 'lineagelaw03.BignatGCD'. -/
def bignatGCDCard : Claim7 := { stood := { row := bignatGCDRow, standIns := [], harness := (true, "f56b4928866cfcbbfe215d8ea9f97919b09d1fc9802293642ec8c4c3ee8a4794"), looks := true }, kinds := [], alts := [], laidByText := true, laidKinds := [.data, .data, .data], laidTests := true, laidLooks := .later }
def BignatGCDCardSaid : Prop := Claim7.holds Tryd.pinned (.plain (OpenSpec.ofChange bignatGCDSpec)) bignatGCDCard

/-- THE TIED CARD OF 'lineagelaw03.BignatCompare'. -/
def bignatCompareCard : Claim7 := { stood := { row := bignatCompareRow, standIns := [], harness := (true, "f56b4928866cfcbbfe215d8ea9f97919b09d1fc9802293642ec8c4c3ee8a4794"), looks := true }, kinds := [], alts := [], laidByText := true, laidKinds := [.data, .data, .data], laidTests := true, laidLooks := .later }
def BignatCompareCardSaid : Prop := Claim7.holds Tryd.pinned (.plain (OpenSpec.ofChange bignatCompareSpec)) bignatCompareCard

/-- THE TIED CARD OF 'lineagelaw03.BignatAdd'. -/
def bignatAddCard : Claim7 := { stood := { row := bignatAddRow, standIns := [], harness := (true, "f56b4928866cfcbbfe215d8ea9f97919b09d1fc9802293642ec8c4c3ee8a4794"), looks := true }, kinds := [], alts := [], laidByText := true, laidKinds := [.data, .data, .data], laidTests := true, laidLooks := .later }
def BignatAddCardSaid : Prop := Claim7.holds Tryd.pinned (.plain (OpenSpec.ofChange bignatAddSpec)) bignatAddCard

/-- THE TIED CARD OF 'lineagelaw03.BignatShift'. -/
def bignatShiftCard : Claim7 := { stood := { row := bignatShiftRow, standIns := [], harness := (true, "f56b4928866cfcbbfe215d8ea9f97919b09d1fc9802293642ec8c4c3ee8a4794"), looks := true }, kinds := [], alts := [], laidByText := true, laidKinds := [.data, .data, .data], laidTests := true, laidLooks := .later }
def BignatShiftCardSaid : Prop := Claim7.holds Tryd.pinned (.plain (OpenSpec.ofChange bignatShiftSpec)) bignatShiftCard

/-- THE TIED CARD OF 'lineagelaw10.RationalOrder'. -/
def rationalOrderCard : Claim7 := { stood := { row := rationalOrderRow, standIns := [], harness := (true, "f56b4928866cfcbbfe215d8ea9f97919b09d1fc9802293642ec8c4c3ee8a4794"), looks := true }, kinds := [], alts := [], laidByText := true, laidKinds := [.data, .data, .data], laidTests := true, laidLooks := .later }
def RationalOrderCardSaid : Prop := Claim7.holds Tryd.pinned (.plain (OpenSpec.ofChange rationalOrderSpec)) rationalOrderCard

/-- THE TIED CARD OF 'lineagelaw10.RationalPermille'. -/
def rationalPermilleCard : Claim7 := { stood := { row := rationalPermilleRow, standIns := [], harness := (true, "f56b4928866cfcbbfe215d8ea9f97919b09d1fc9802293642ec8c4c3ee8a4794"), looks := true }, kinds := [], alts := [], laidByText := true, laidKinds := [.data, .data, .data], laidTests := true, laidLooks := .later }
def RationalPermilleCardSaid : Prop := Claim7.holds Tryd.pinned (.plain (OpenSpec.ofChange rationalPermilleSpec)) rationalPermilleCard

/-- THE TIED CARD OF 'lineagelaw10.RationalNormalForm'. -/
def rationalNormalFormCard : Claim7 := { stood := { row := rationalNormalFormRow, standIns := [], harness := (true, "f56b4928866cfcbbfe215d8ea9f97919b09d1fc9802293642ec8c4c3ee8a4794"), looks := true }, kinds := [], alts := [], laidByText := true, laidKinds := [.data, .data, .data], laidTests := true, laidLooks := .later }
def RationalNormalFormCardSaid : Prop := Claim7.holds Tryd.pinned (.plain (OpenSpec.ofChange rationalNormalFormSpec)) rationalNormalFormCard

/-- THE TIED CARD OF 'lineagelaw10.RationalArithmetic'. -/
def rationalArithmeticCard : Claim7 := { stood := { row := rationalArithmeticRow, standIns := [], harness := (true, "f56b4928866cfcbbfe215d8ea9f97919b09d1fc9802293642ec8c4c3ee8a4794"), looks := true }, kinds := [], alts := [], laidByText := true, laidKinds := [.data, .data, .data], laidTests := true, laidLooks := .later }
def RationalArithmeticCardSaid : Prop := Claim7.holds Tryd.pinned (.plain (OpenSpec.ofChange rationalArithmeticSpec)) rationalArithmeticCard

/-- THE TIED CARD OF 'lineagelaw10.RationalField'. -/
def rationalFieldCard : Claim7 := { stood := { row := rationalFieldRow, standIns := [], harness := (true, "f56b4928866cfcbbfe215d8ea9f97919b09d1fc9802293642ec8c4c3ee8a4794"), looks := true }, kinds := [], alts := [], laidByText := true, laidKinds := [.data, .data, .data], laidTests := true, laidLooks := .later }
def RationalFieldCardSaid : Prop := Claim7.holds Tryd.pinned (.plain (OpenSpec.ofChange rationalFieldSpec)) rationalFieldCard

/-- THE TIED CARD OF 'lineagelaw10.RationalProbabilities'. -/
def rationalProbabilitiesCard : Claim7 := { stood := { row := rationalProbabilitiesRow, standIns := [], harness := (true, "f56b4928866cfcbbfe215d8ea9f97919b09d1fc9802293642ec8c4c3ee8a4794"), looks := true }, kinds := [], alts := [], laidByText := true, laidKinds := [.data, .data, .data], laidTests := true, laidLooks := .later }
def RationalProbabilitiesCardSaid : Prop := Claim7.holds Tryd.pinned (.plain (OpenSpec.ofChange rationalProbabilitiesSpec)) rationalProbabilitiesCard

/-- THE TIED CARD OF 'lineagelaw10.RationalLimits'. -/
def rationalLimitsCard : Claim7 := { stood := { row := rationalLimitsRow, standIns := [], harness := (true, "f56b4928866cfcbbfe215d8ea9f97919b09d1fc9802293642ec8c4c3ee8a4794"), looks := true }, kinds := [], alts := [], laidByText := true, laidKinds := [.data, .data, .data], laidTests := true, laidLooks := .later }
def RationalLimitsCardSaid : Prop := Claim7.holds Tryd.pinned (.plain (OpenSpec.ofChange rationalLimitsSpec)) rationalLimitsCard

/-- THE TIED CARD OF 'lineagelaw03.BignatDecimal'. -/
def bignatDecimalCard : Claim7 := { stood := { row := bignatDecimalRow, standIns := [], harness := (true, "f56b4928866cfcbbfe215d8ea9f97919b09d1fc9802293642ec8c4c3ee8a4794"), looks := true }, kinds := [], alts := [], laidByText := true, laidKinds := [.data, .data, .data, .sentinel, .sentinel], laidTests := true, laidLooks := .later }
def BignatDecimalCardSaid : Prop := Claim7.holds Tryd.pinned (.plain (OpenSpec.ofChange bignatDecimalSpec)) bignatDecimalCard

/-- THE SECOND FORM's CARD OF 'lineagelaw03.BignatMul'. -/
def bignatMulUptoCard : Claim7 := { stood := { row := bignatMulUptoRow, standIns := [], harness := (true, "f56b4928866cfcbbfe215d8ea9f97919b09d1fc9802293642ec8c4c3ee8a4794"), looks := true }, kinds := [], alts := [], laidByText := true, laidKinds := [.data, .data, .data], laidTests := true, laidLooks := .later }
def BignatMulUptoCardSaid : Prop := Claim7.holds Tryd.pinned (.plain (OpenSpec.upto bignatMulSpec)) bignatMulUptoCard

/-- THE SECOND FORM's CARD OF 'lineagelaw03.BignatRing'. -/
def bignatRingUptoCard : Claim7 := { stood := { row := bignatRingUptoRow, standIns := [], harness := (true, "f56b4928866cfcbbfe215d8ea9f97919b09d1fc9802293642ec8c4c3ee8a4794"), looks := true }, kinds := [], alts := [], laidByText := true, laidKinds := [.data, .data, .data], laidTests := true, laidLooks := .later }
def BignatRingUptoCardSaid : Prop := Claim7.holds Tryd.pinned (.plain (OpenSpec.upto bignatRingSpec)) bignatRingUptoCard

/-- THE SECOND FORM's CARD OF 'lineagelaw03.BignatDivMod'. -/
def bignatDivModUptoCard : Claim7 := { stood := { row := bignatDivModUptoRow, standIns := [], harness := (true, "f56b4928866cfcbbfe215d8ea9f97919b09d1fc9802293642ec8c4c3ee8a4794"), looks := true }, kinds := [], alts := [], laidByText := true, laidKinds := [.data, .data, .data], laidTests := true, laidLooks := .later }
def BignatDivModUptoCardSaid : Prop := Claim7.holds Tryd.pinned (.plain (OpenSpec.upto bignatDivModSpec)) bignatDivModUptoCard

/-- THE SECOND FORM's CARD OF 'lineagelaw03.BignatGCD'. -/
def bignatGCDUptoCard : Claim7 := { stood := { row := bignatGCDUptoRow, standIns := [], harness := (true, "f56b4928866cfcbbfe215d8ea9f97919b09d1fc9802293642ec8c4c3ee8a4794"), looks := true }, kinds := [], alts := [], laidByText := true, laidKinds := [.data, .data, .data], laidTests := true, laidLooks := .later }
def BignatGCDUptoCardSaid : Prop := Claim7.holds Tryd.pinned (.plain (OpenSpec.upto bignatGCDSpec)) bignatGCDUptoCard

/-- THE SECOND FORM's CARD OF 'lineagelaw03.BignatCompare'. -/
def bignatCompareUptoCard : Claim7 := { stood := { row := bignatCompareUptoRow, standIns := [], harness := (true, "f56b4928866cfcbbfe215d8ea9f97919b09d1fc9802293642ec8c4c3ee8a4794"), looks := true }, kinds := [], alts := [], laidByText := true, laidKinds := [.data, .data, .data], laidTests := true, laidLooks := .later }
def BignatCompareUptoCardSaid : Prop := Claim7.holds Tryd.pinned (.plain (OpenSpec.upto bignatCompareSpec)) bignatCompareUptoCard

/-- THE SECOND FORM's CARD OF 'lineagelaw03.BignatAdd'. -/
def bignatAddUptoCard : Claim7 := { stood := { row := bignatAddUptoRow, standIns := [], harness := (true, "f56b4928866cfcbbfe215d8ea9f97919b09d1fc9802293642ec8c4c3ee8a4794"), looks := true }, kinds := [], alts := [], laidByText := true, laidKinds := [.data, .data, .data], laidTests := true, laidLooks := .later }
def BignatAddUptoCardSaid : Prop := Claim7.holds Tryd.pinned (.plain (OpenSpec.upto bignatAddSpec)) bignatAddUptoCard

/-- THE SECOND FORM's CARD OF 'lineagelaw03.BignatShift'. -/
def bignatShiftUptoCard : Claim7 := { stood := { row := bignatShiftUptoRow, standIns := [], harness := (true, "f56b4928866cfcbbfe215d8ea9f97919b09d1fc9802293642ec8c4c3ee8a4794"), looks := true }, kinds := [], alts := [], laidByText := true, laidKinds := [.data, .data, .data], laidTests := true, laidLooks := .later }
def BignatShiftUptoCardSaid : Prop := Claim7.holds Tryd.pinned (.plain (OpenSpec.upto bignatShiftSpec)) bignatShiftUptoCard

/-- THE SECOND FORM's CARD OF 'lineagelaw10.RationalOrder'. -/
def rationalOrderUptoCard : Claim7 := { stood := { row := rationalOrderUptoRow, standIns := [], harness := (true, "f56b4928866cfcbbfe215d8ea9f97919b09d1fc9802293642ec8c4c3ee8a4794"), looks := true }, kinds := [], alts := [], laidByText := true, laidKinds := [.data, .data, .data], laidTests := true, laidLooks := .later }
def RationalOrderUptoCardSaid : Prop := Claim7.holds Tryd.pinned (.plain (OpenSpec.upto rationalOrderSpec)) rationalOrderUptoCard

/-- THE SECOND FORM's CARD OF 'lineagelaw10.RationalPermille'. -/
def rationalPermilleUptoCard : Claim7 := { stood := { row := rationalPermilleUptoRow, standIns := [], harness := (true, "f56b4928866cfcbbfe215d8ea9f97919b09d1fc9802293642ec8c4c3ee8a4794"), looks := true }, kinds := [], alts := [], laidByText := true, laidKinds := [.data, .data, .data], laidTests := true, laidLooks := .later }
def RationalPermilleUptoCardSaid : Prop := Claim7.holds Tryd.pinned (.plain (OpenSpec.upto rationalPermilleSpec)) rationalPermilleUptoCard

/-- THE SECOND FORM's CARD OF 'lineagelaw10.RationalNormalForm'. -/
def rationalNormalFormUptoCard : Claim7 := { stood := { row := rationalNormalFormUptoRow, standIns := [], harness := (true, "f56b4928866cfcbbfe215d8ea9f97919b09d1fc9802293642ec8c4c3ee8a4794"), looks := true }, kinds := [], alts := [], laidByText := true, laidKinds := [.data, .data, .data], laidTests := true, laidLooks := .later }
def RationalNormalFormUptoCardSaid : Prop := Claim7.holds Tryd.pinned (.plain (OpenSpec.upto rationalNormalFormSpec)) rationalNormalFormUptoCard

/-- THE SECOND FORM's CARD OF 'lineagelaw10.RationalArithmetic'. -/
def rationalArithmeticUptoCard : Claim7 := { stood := { row := rationalArithmeticUptoRow, standIns := [], harness := (true, "f56b4928866cfcbbfe215d8ea9f97919b09d1fc9802293642ec8c4c3ee8a4794"), looks := true }, kinds := [], alts := [], laidByText := true, laidKinds := [.data, .data, .data], laidTests := true, laidLooks := .later }
def RationalArithmeticUptoCardSaid : Prop := Claim7.holds Tryd.pinned (.plain (OpenSpec.upto rationalArithmeticSpec)) rationalArithmeticUptoCard

/-- THE SECOND FORM's CARD OF 'lineagelaw10.RationalField'. -/
def rationalFieldUptoCard : Claim7 := { stood := { row := rationalFieldUptoRow, standIns := [], harness := (true, "f56b4928866cfcbbfe215d8ea9f97919b09d1fc9802293642ec8c4c3ee8a4794"), looks := true }, kinds := [], alts := [], laidByText := true, laidKinds := [.data, .data, .data], laidTests := true, laidLooks := .later }
def RationalFieldUptoCardSaid : Prop := Claim7.holds Tryd.pinned (.plain (OpenSpec.upto rationalFieldSpec)) rationalFieldUptoCard

/-- THE SECOND FORM's CARD OF 'lineagelaw10.RationalProbabilities'. -/
def rationalProbabilitiesUptoCard : Claim7 := { stood := { row := rationalProbabilitiesUptoRow, standIns := [], harness := (true, "f56b4928866cfcbbfe215d8ea9f97919b09d1fc9802293642ec8c4c3ee8a4794"), looks := true }, kinds := [], alts := [], laidByText := true, laidKinds := [.data, .data, .data], laidTests := true, laidLooks := .later }
def RationalProbabilitiesUptoCardSaid : Prop := Claim7.holds Tryd.pinned (.plain (OpenSpec.upto rationalProbabilitiesSpec)) rationalProbabilitiesUptoCard

/-- THE SECOND FORM's CARD OF 'lineagelaw10.RationalLimits'. -/
def rationalLimitsUptoCard : Claim7 := { stood := { row := rationalLimitsUptoRow, standIns := [], harness := (true, "f56b4928866cfcbbfe215d8ea9f97919b09d1fc9802293642ec8c4c3ee8a4794"), looks := true }, kinds := [], alts := [], laidByText := true, laidKinds := [.data, .data, .data], laidTests := true, laidLooks := .later }
def RationalLimitsUptoCardSaid : Prop := Claim7.holds Tryd.pinned (.plain (OpenSpec.upto rationalLimitsSpec)) rationalLimitsUptoCard

/-- THE SECOND FORM's CARD OF 'lineagelaw03.BignatDecimal'. -/
def bignatDecimalUptoCard : Claim7 := { stood := { row := bignatDecimalUptoRow, standIns := [], harness := (true, "f56b4928866cfcbbfe215d8ea9f97919b09d1fc9802293642ec8c4c3ee8a4794"), looks := true }, kinds := [], alts := [], laidByText := true, laidKinds := [.data, .data, .data, .sentinel, .sentinel], laidTests := true, laidLooks := .later }
def BignatDecimalUptoCardSaid : Prop := Claim7.holds Tryd.pinned (.plain (OpenSpec.upto bignatDecimalSpec)) bignatDecimalUptoCard
end Rows
end Go.Proofs.YtoakfjcejamoeaaDoor
