/-
  DERIVED. GIVEN WITH THE SEED: THE CARDS: each row of YtpenabnichgidaaGreatDoorRows.lean that lists a variable, with what it lists TIED to the program's text (the seventh form; the later family's looks); each row that meets fmt, with fmt's text TOLD by the authors' own Lean function (tested against real Go, not proved from fmt's source: count such statements apart). THE CARD IS WHAT COUNTS. Prove the row's statement (the work); the ties are given (YtpenabnichgidaaGreatDoorTie.lean); close each card by the builder's one call (the guide's Derived/Test/ToyasCard.lean, 'card_holds'). Laid BY PROGRAM, IN A SANDBOX (cutbox-door.mjs). By AI agents, Wed Nov 11 2026. No macro, syntax, notation, axiom, sorry.
-/
import Derived.Test.YtpenabnichgidaaGreatDoorRows
import GoSem.ClaimSeven
namespace Go.Proofs.YtpenabnichgidaaGreatDoor
namespace Rows

/-- THE TIED CARD OF 'salchowlaw15.SegmentLoads'. -/
def segmentLoadsCard : Claim7 := { stood := { row := segmentLoadsRow, standIns := [], harness := (true, "69720512725002973fa647e7ed29c48d9dcd92f8ce68a83ae5107ef2abba7dac"), looks := true }, kinds := [], alts := [], laidByText := true, laidKinds := [.data, .data, .data, .sentinel, .sentinel], laidTests := true, laidLooks := .later }
def SegmentLoadsCardSaid : Prop := Claim7.holds Tryz.pinned (.plain (OpenSpec.ofChange segmentLoadsSpec)) segmentLoadsCard

/-- THE TIED CARD OF 'salchowlaw15.SegmentOrder'. -/
def segmentOrderCard : Claim7 := { stood := { row := segmentOrderRow, standIns := [], harness := (true, "69720512725002973fa647e7ed29c48d9dcd92f8ce68a83ae5107ef2abba7dac"), looks := true }, kinds := [], alts := [], laidByText := true, laidKinds := [.data, .data, .data, .sentinel, .sentinel], laidTests := true, laidLooks := .later }
def SegmentOrderCardSaid : Prop := Claim7.holds Tryz.pinned (.plain (OpenSpec.ofChange segmentOrderSpec)) segmentOrderCard

/-- THE TIED CARD OF 'salchowlaw15.SegmentGrid'. -/
def segmentGridCard : Claim7 := { stood := { row := segmentGridRow, standIns := [], harness := (true, "69720512725002973fa647e7ed29c48d9dcd92f8ce68a83ae5107ef2abba7dac"), looks := true }, kinds := [], alts := [], laidByText := true, laidKinds := [.data, .data, .data, .sentinel, .sentinel], laidTests := true, laidLooks := .later }
def SegmentGridCardSaid : Prop := Claim7.holds Tryz.pinned (.plain (OpenSpec.ofChange segmentGridSpec)) segmentGridCard

/-- THE TIED CARD OF 'salchowlaw15.SegmentNearest'. -/
def segmentNearestCard : Claim7 := { stood := { row := segmentNearestRow, standIns := [], harness := (true, "69720512725002973fa647e7ed29c48d9dcd92f8ce68a83ae5107ef2abba7dac"), looks := true }, kinds := [], alts := [], laidByText := true, laidKinds := [.data, .data, .data, .sentinel, .sentinel], laidTests := true, laidLooks := .later }
def SegmentNearestCardSaid : Prop := Claim7.holds Tryz.pinned (.plain (OpenSpec.ofChange segmentNearestSpec)) segmentNearestCard

/-- THE TIED CARD OF 'salchowlaw15.SegmentFinds'. -/
def segmentFindsCard : Claim7 := { stood := { row := segmentFindsRow, standIns := [], harness := (true, "69720512725002973fa647e7ed29c48d9dcd92f8ce68a83ae5107ef2abba7dac"), looks := true }, kinds := [], alts := [], laidByText := true, laidKinds := [.data, .data, .data, .sentinel, .sentinel], laidTests := true, laidLooks := .later }
def SegmentFindsCardSaid : Prop := Claim7.holds Tryz.pinned (.plain (OpenSpec.ofChange segmentFindsSpec)) segmentFindsCard

/-- THE TIED CARD OF 'salchowlaw15.SegmentChecks'. -/
def segmentChecksCard : Claim7 := { stood := { row := segmentChecksRow, standIns := [], harness := (true, "69720512725002973fa647e7ed29c48d9dcd92f8ce68a83ae5107ef2abba7dac"), looks := true }, kinds := [], alts := [], laidByText := true, laidKinds := [.data, .data, .data, .data, .sentinel, .sentinel, .pinned], laidTests := true, laidLooks := .later }
def SegmentChecksCardSaid : Prop := Claim7.holds Tryz.pinned (.plain (OpenSpec.ofChange segmentChecksSpec)) segmentChecksCard

/-- THE TIED CARD OF 'salchowlaw15.SegmentLoaded'. -/
def segmentLoadedCard : Claim7 := { stood := { row := segmentLoadedRow, standIns := [], harness := (true, "69720512725002973fa647e7ed29c48d9dcd92f8ce68a83ae5107ef2abba7dac"), looks := true }, kinds := [], alts := [], laidByText := true, laidKinds := [.data, .data, .data, .data, .sentinel, .sentinel, .pinned], laidTests := true, laidLooks := .later }
def SegmentLoadedCardSaid : Prop := Claim7.holds Tryz.pinned (.plain (OpenSpec.ofChange segmentLoadedSpec)) segmentLoadedCard

/-- THE TIED CARD OF 'salchowlaw15.SegmentRound'. -/
def segmentRoundCard : Claim7 := { stood := { row := segmentRoundRow, standIns := [], harness := (true, "69720512725002973fa647e7ed29c48d9dcd92f8ce68a83ae5107ef2abba7dac"), looks := true }, kinds := [], alts := [], laidByText := true, laidKinds := [.data, .data, .data, .data, .sentinel, .sentinel, .pinned], laidTests := true, laidLooks := .later }
def SegmentRoundCardSaid : Prop := Claim7.holds Tryz.pinned (.plain (OpenSpec.ofChange segmentRoundSpec)) segmentRoundCard

/-- THE SECOND FORM's CARD OF 'salchowlaw15.SegmentLoads'. -/
def segmentLoadsUptoCard : Claim7 := { stood := { row := segmentLoadsUptoRow, standIns := [], harness := (true, "69720512725002973fa647e7ed29c48d9dcd92f8ce68a83ae5107ef2abba7dac"), looks := true }, kinds := [], alts := [], laidByText := true, laidKinds := [.data, .data, .data, .sentinel, .sentinel], laidTests := true, laidLooks := .later }
def SegmentLoadsUptoCardSaid : Prop := Claim7.holds Tryz.pinned (.plain (OpenSpec.upto segmentLoadsSpec)) segmentLoadsUptoCard

/-- THE SECOND FORM's CARD OF 'salchowlaw15.SegmentOrder'. -/
def segmentOrderUptoCard : Claim7 := { stood := { row := segmentOrderUptoRow, standIns := [], harness := (true, "69720512725002973fa647e7ed29c48d9dcd92f8ce68a83ae5107ef2abba7dac"), looks := true }, kinds := [], alts := [], laidByText := true, laidKinds := [.data, .data, .data, .sentinel, .sentinel], laidTests := true, laidLooks := .later }
def SegmentOrderUptoCardSaid : Prop := Claim7.holds Tryz.pinned (.plain (OpenSpec.upto segmentOrderSpec)) segmentOrderUptoCard

/-- THE SECOND FORM's CARD OF 'salchowlaw15.SegmentGrid'. -/
def segmentGridUptoCard : Claim7 := { stood := { row := segmentGridUptoRow, standIns := [], harness := (true, "69720512725002973fa647e7ed29c48d9dcd92f8ce68a83ae5107ef2abba7dac"), looks := true }, kinds := [], alts := [], laidByText := true, laidKinds := [.data, .data, .data, .sentinel, .sentinel], laidTests := true, laidLooks := .later }
def SegmentGridUptoCardSaid : Prop := Claim7.holds Tryz.pinned (.plain (OpenSpec.upto segmentGridSpec)) segmentGridUptoCard

/-- THE SECOND FORM's CARD OF 'salchowlaw15.SegmentNearest'. -/
def segmentNearestUptoCard : Claim7 := { stood := { row := segmentNearestUptoRow, standIns := [], harness := (true, "69720512725002973fa647e7ed29c48d9dcd92f8ce68a83ae5107ef2abba7dac"), looks := true }, kinds := [], alts := [], laidByText := true, laidKinds := [.data, .data, .data, .sentinel, .sentinel], laidTests := true, laidLooks := .later }
def SegmentNearestUptoCardSaid : Prop := Claim7.holds Tryz.pinned (.plain (OpenSpec.upto segmentNearestSpec)) segmentNearestUptoCard

/-- THE SECOND FORM's CARD OF 'salchowlaw15.SegmentFinds'. -/
def segmentFindsUptoCard : Claim7 := { stood := { row := segmentFindsUptoRow, standIns := [], harness := (true, "69720512725002973fa647e7ed29c48d9dcd92f8ce68a83ae5107ef2abba7dac"), looks := true }, kinds := [], alts := [], laidByText := true, laidKinds := [.data, .data, .data, .sentinel, .sentinel], laidTests := true, laidLooks := .later }
def SegmentFindsUptoCardSaid : Prop := Claim7.holds Tryz.pinned (.plain (OpenSpec.upto segmentFindsSpec)) segmentFindsUptoCard

/-- THE SECOND FORM's CARD OF 'salchowlaw15.SegmentChecks'. -/
def segmentChecksUptoCard : Claim7 := { stood := { row := segmentChecksUptoRow, standIns := [], harness := (true, "69720512725002973fa647e7ed29c48d9dcd92f8ce68a83ae5107ef2abba7dac"), looks := true }, kinds := [], alts := [], laidByText := true, laidKinds := [.data, .data, .data, .data, .sentinel, .sentinel, .pinned], laidTests := true, laidLooks := .later }
def SegmentChecksUptoCardSaid : Prop := Claim7.holds Tryz.pinned (.plain (OpenSpec.upto segmentChecksSpec)) segmentChecksUptoCard

/-- THE SECOND FORM's CARD OF 'salchowlaw15.SegmentLoaded'. -/
def segmentLoadedUptoCard : Claim7 := { stood := { row := segmentLoadedUptoRow, standIns := [], harness := (true, "69720512725002973fa647e7ed29c48d9dcd92f8ce68a83ae5107ef2abba7dac"), looks := true }, kinds := [], alts := [], laidByText := true, laidKinds := [.data, .data, .data, .data, .sentinel, .sentinel, .pinned], laidTests := true, laidLooks := .later }
def SegmentLoadedUptoCardSaid : Prop := Claim7.holds Tryz.pinned (.plain (OpenSpec.upto segmentLoadedSpec)) segmentLoadedUptoCard

/-- THE SECOND FORM's CARD OF 'salchowlaw15.SegmentRound'. -/
def segmentRoundUptoCard : Claim7 := { stood := { row := segmentRoundUptoRow, standIns := [], harness := (true, "69720512725002973fa647e7ed29c48d9dcd92f8ce68a83ae5107ef2abba7dac"), looks := true }, kinds := [], alts := [], laidByText := true, laidKinds := [.data, .data, .data, .data, .sentinel, .sentinel, .pinned], laidTests := true, laidLooks := .later }
def SegmentRoundUptoCardSaid : Prop := Claim7.holds Tryz.pinned (.plain (OpenSpec.upto segmentRoundSpec)) segmentRoundUptoCard
end Rows
end Go.Proofs.YtpenabnichgidaaGreatDoor
