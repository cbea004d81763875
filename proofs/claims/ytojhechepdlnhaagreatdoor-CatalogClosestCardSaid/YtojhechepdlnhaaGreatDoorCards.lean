/-
  DERIVED. GIVEN WITH THE SEED: THE CARDS: each row of YtojhechepdlnhaaGreatDoorRows.lean that lists a variable, with what it lists TIED to the program's text (the seventh form; the later family's looks); each row that meets fmt, with fmt's text TOLD by the authors' own Lean function (tested against real Go, not proved from fmt's source: count such statements apart). THE CARD IS WHAT COUNTS. Prove the row's statement (the work); the ties are given (YtojhechepdlnhaaGreatDoorTie.lean); close each card by the builder's one call (the guide's Derived/Test/ToyasCard.lean, 'card_holds'). Laid BY PROGRAM, IN A SANDBOX (cutbox-door.mjs). By AI agents, Wed Nov 11 2026. No macro, syntax, notation, axiom, sorry.
-/
import Derived.Test.YtojhechepdlnhaaGreatDoorRows
import GoSem.ClaimSeven
namespace Go.Proofs.YtojhechepdlnhaaGreatDoor
namespace Rows

/-- THE TIED CARD OF 'salchowlaw14.CatalogChecks'. -/
def catalogChecksCard : Claim7 := { stood := { row := catalogChecksRow, standIns := [], harness := (true, "8d0b2ef4b287e39f5b6f99615d0e7369fe284ce098f02e3086ab7a7744883bc7"), looks := true }, kinds := [], alts := [], laidByText := true, laidKinds := [.data, .data, .data, .sentinel, .sentinel], laidTests := true, laidLooks := .later }
def CatalogChecksCardSaid : Prop := Claim7.holds Tryz.pinned (.plain (OpenSpec.ofChange catalogChecksSpec)) catalogChecksCard

/-- THE TIED CARD OF 'salchowlaw14.CatalogClauses'. -/
def catalogClausesCard : Claim7 := { stood := { row := catalogClausesRow, standIns := [], harness := (true, "8d0b2ef4b287e39f5b6f99615d0e7369fe284ce098f02e3086ab7a7744883bc7"), looks := true }, kinds := [], alts := [], laidByText := true, laidKinds := [.data, .data, .data, .sentinel, .sentinel], laidTests := true, laidLooks := .later }
def CatalogClausesCardSaid : Prop := Claim7.holds Tryz.pinned (.plain (OpenSpec.ofChange catalogClausesSpec)) catalogClausesCard

/-- THE TIED CARD OF 'salchowlaw14.CatalogLooks'. -/
def catalogLooksCard : Claim7 := { stood := { row := catalogLooksRow, standIns := [], harness := (true, "8d0b2ef4b287e39f5b6f99615d0e7369fe284ce098f02e3086ab7a7744883bc7"), looks := true }, kinds := [], alts := [], laidByText := true, laidKinds := [.data, .data, .data, .sentinel, .sentinel], laidTests := true, laidLooks := .later }
def CatalogLooksCardSaid : Prop := Claim7.holds Tryz.pinned (.plain (OpenSpec.ofChange catalogLooksSpec)) catalogLooksCard

/-- THE TIED CARD OF 'salchowlaw14.CatalogChains'. -/
def catalogChainsCard : Claim7 := { stood := { row := catalogChainsRow, standIns := [], harness := (true, "8d0b2ef4b287e39f5b6f99615d0e7369fe284ce098f02e3086ab7a7744883bc7"), looks := true }, kinds := [], alts := [], laidByText := true, laidKinds := [.data, .data, .data, .sentinel, .sentinel], laidTests := true, laidLooks := .later }
def CatalogChainsCardSaid : Prop := Claim7.holds Tryz.pinned (.plain (OpenSpec.ofChange catalogChainsSpec)) catalogChainsCard

/-- THE TIED CARD OF 'salchowlaw14.CatalogDistance'. -/
def catalogDistanceCard : Claim7 := { stood := { row := catalogDistanceRow, standIns := [], harness := (true, "8d0b2ef4b287e39f5b6f99615d0e7369fe284ce098f02e3086ab7a7744883bc7"), looks := true }, kinds := [], alts := [], laidByText := true, laidKinds := [.data, .data, .data, .sentinel, .sentinel], laidTests := true, laidLooks := .later }
def CatalogDistanceCardSaid : Prop := Claim7.holds Tryz.pinned (.plain (OpenSpec.ofChange catalogDistanceSpec)) catalogDistanceCard

/-- THE TIED CARD OF 'salchowlaw14.CatalogClosest'. -/
def catalogClosestCard : Claim7 := { stood := { row := catalogClosestRow, standIns := [], harness := (true, "8d0b2ef4b287e39f5b6f99615d0e7369fe284ce098f02e3086ab7a7744883bc7"), looks := true }, kinds := [], alts := [], laidByText := true, laidKinds := [.data, .data, .data, .sentinel, .sentinel], laidTests := true, laidLooks := .later }
def CatalogClosestCardSaid : Prop := Claim7.holds Tryz.pinned (.plain (OpenSpec.ofChange catalogClosestSpec)) catalogClosestCard

/-- THE TIED CARD OF 'salchowlaw14.CatalogLoads'. -/
def catalogLoadsCard : Claim7 := { stood := { row := catalogLoadsRow, standIns := [], harness := (true, "8d0b2ef4b287e39f5b6f99615d0e7369fe284ce098f02e3086ab7a7744883bc7"), looks := true }, kinds := [], alts := [], laidByText := true, laidKinds := [.data, .data, .data, .sentinel, .sentinel], laidTests := true, laidLooks := .later }
def CatalogLoadsCardSaid : Prop := Claim7.holds Tryz.pinned (.plain (OpenSpec.ofChange catalogLoadsSpec)) catalogLoadsCard

/-- THE TIED CARD OF 'salchowlaw14.CatalogValid'. -/
def catalogValidCard : Claim7 := { stood := { row := catalogValidRow, standIns := [], harness := (true, "8d0b2ef4b287e39f5b6f99615d0e7369fe284ce098f02e3086ab7a7744883bc7"), looks := true }, kinds := [], alts := [], laidByText := true, laidKinds := [.data, .data, .data, .sentinel, .sentinel], laidTests := true, laidLooks := .later }
def CatalogValidCardSaid : Prop := Claim7.holds Tryz.pinned (.plain (OpenSpec.ofChange catalogValidSpec)) catalogValidCard

/-- THE TIED CARD OF 'salchowlaw14.CatalogOrder'. -/
def catalogOrderCard : Claim7 := { stood := { row := catalogOrderRow, standIns := [], harness := (true, "8d0b2ef4b287e39f5b6f99615d0e7369fe284ce098f02e3086ab7a7744883bc7"), looks := true }, kinds := [], alts := [], laidByText := true, laidKinds := [.data, .data, .data, .sentinel, .sentinel], laidTests := true, laidLooks := .later }
def CatalogOrderCardSaid : Prop := Claim7.holds Tryz.pinned (.plain (OpenSpec.ofChange catalogOrderSpec)) catalogOrderCard

/-- THE SECOND FORM's CARD OF 'salchowlaw14.CatalogChecks'. -/
def catalogChecksUptoCard : Claim7 := { stood := { row := catalogChecksUptoRow, standIns := [], harness := (true, "8d0b2ef4b287e39f5b6f99615d0e7369fe284ce098f02e3086ab7a7744883bc7"), looks := true }, kinds := [], alts := [], laidByText := true, laidKinds := [.data, .data, .data, .sentinel, .sentinel], laidTests := true, laidLooks := .later }
def CatalogChecksUptoCardSaid : Prop := Claim7.holds Tryz.pinned (.plain (OpenSpec.upto catalogChecksSpec)) catalogChecksUptoCard

/-- THE SECOND FORM's CARD OF 'salchowlaw14.CatalogClauses'. -/
def catalogClausesUptoCard : Claim7 := { stood := { row := catalogClausesUptoRow, standIns := [], harness := (true, "8d0b2ef4b287e39f5b6f99615d0e7369fe284ce098f02e3086ab7a7744883bc7"), looks := true }, kinds := [], alts := [], laidByText := true, laidKinds := [.data, .data, .data, .sentinel, .sentinel], laidTests := true, laidLooks := .later }
def CatalogClausesUptoCardSaid : Prop := Claim7.holds Tryz.pinned (.plain (OpenSpec.upto catalogClausesSpec)) catalogClausesUptoCard

/-- THE SECOND FORM's CARD OF 'salchowlaw14.CatalogLooks'. -/
def catalogLooksUptoCard : Claim7 := { stood := { row := catalogLooksUptoRow, standIns := [], harness := (true, "8d0b2ef4b287e39f5b6f99615d0e7369fe284ce098f02e3086ab7a7744883bc7"), looks := true }, kinds := [], alts := [], laidByText := true, laidKinds := [.data, .data, .data, .sentinel, .sentinel], laidTests := true, laidLooks := .later }
def CatalogLooksUptoCardSaid : Prop := Claim7.holds Tryz.pinned (.plain (OpenSpec.upto catalogLooksSpec)) catalogLooksUptoCard

/-- THE SECOND FORM's CARD OF 'salchowlaw14.CatalogChains'. -/
def catalogChainsUptoCard : Claim7 := { stood := { row := catalogChainsUptoRow, standIns := [], harness := (true, "8d0b2ef4b287e39f5b6f99615d0e7369fe284ce098f02e3086ab7a7744883bc7"), looks := true }, kinds := [], alts := [], laidByText := true, laidKinds := [.data, .data, .data, .sentinel, .sentinel], laidTests := true, laidLooks := .later }
def CatalogChainsUptoCardSaid : Prop := Claim7.holds Tryz.pinned (.plain (OpenSpec.upto catalogChainsSpec)) catalogChainsUptoCard

/-- THE SECOND FORM's CARD OF 'salchowlaw14.CatalogDistance'. -/
def catalogDistanceUptoCard : Claim7 := { stood := { row := catalogDistanceUptoRow, standIns := [], harness := (true, "8d0b2ef4b287e39f5b6f99615d0e7369fe284ce098f02e3086ab7a7744883bc7"), looks := true }, kinds := [], alts := [], laidByText := true, laidKinds := [.data, .data, .data, .sentinel, .sentinel], laidTests := true, laidLooks := .later }
def CatalogDistanceUptoCardSaid : Prop := Claim7.holds Tryz.pinned (.plain (OpenSpec.upto catalogDistanceSpec)) catalogDistanceUptoCard

/-- THE SECOND FORM's CARD OF 'salchowlaw14.CatalogClosest'. -/
def catalogClosestUptoCard : Claim7 := { stood := { row := catalogClosestUptoRow, standIns := [], harness := (true, "8d0b2ef4b287e39f5b6f99615d0e7369fe284ce098f02e3086ab7a7744883bc7"), looks := true }, kinds := [], alts := [], laidByText := true, laidKinds := [.data, .data, .data, .sentinel, .sentinel], laidTests := true, laidLooks := .later }
def CatalogClosestUptoCardSaid : Prop := Claim7.holds Tryz.pinned (.plain (OpenSpec.upto catalogClosestSpec)) catalogClosestUptoCard

/-- THE SECOND FORM's CARD OF 'salchowlaw14.CatalogLoads'. -/
def catalogLoadsUptoCard : Claim7 := { stood := { row := catalogLoadsUptoRow, standIns := [], harness := (true, "8d0b2ef4b287e39f5b6f99615d0e7369fe284ce098f02e3086ab7a7744883bc7"), looks := true }, kinds := [], alts := [], laidByText := true, laidKinds := [.data, .data, .data, .sentinel, .sentinel], laidTests := true, laidLooks := .later }
def CatalogLoadsUptoCardSaid : Prop := Claim7.holds Tryz.pinned (.plain (OpenSpec.upto catalogLoadsSpec)) catalogLoadsUptoCard

/-- THE SECOND FORM's CARD OF 'salchowlaw14.CatalogValid'. -/
def catalogValidUptoCard : Claim7 := { stood := { row := catalogValidUptoRow, standIns := [], harness := (true, "8d0b2ef4b287e39f5b6f99615d0e7369fe284ce098f02e3086ab7a7744883bc7"), looks := true }, kinds := [], alts := [], laidByText := true, laidKinds := [.data, .data, .data, .sentinel, .sentinel], laidTests := true, laidLooks := .later }
def CatalogValidUptoCardSaid : Prop := Claim7.holds Tryz.pinned (.plain (OpenSpec.upto catalogValidSpec)) catalogValidUptoCard

/-- THE SECOND FORM's CARD OF 'salchowlaw14.CatalogOrder'. -/
def catalogOrderUptoCard : Claim7 := { stood := { row := catalogOrderUptoRow, standIns := [], harness := (true, "8d0b2ef4b287e39f5b6f99615d0e7369fe284ce098f02e3086ab7a7744883bc7"), looks := true }, kinds := [], alts := [], laidByText := true, laidKinds := [.data, .data, .data, .sentinel, .sentinel], laidTests := true, laidLooks := .later }
def CatalogOrderUptoCardSaid : Prop := Claim7.holds Tryz.pinned (.plain (OpenSpec.upto catalogOrderSpec)) catalogOrderUptoCard
end Rows
end Go.Proofs.YtojhechepdlnhaaGreatDoor
