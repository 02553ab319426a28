/-
  DERIVED. GIVEN WITH THE SEED: THE CARDS: each row of YtdajoilaakiinaaGreatDoorRows.lean that lists a variable, with what it lists TIED to the program's text (the seventh form; the later family's looks); each row that meets fmt, with fmt's text TOLD by the authors' own Lean function (tested against real Go, not proved from fmt's source: count such statements apart). THE CARD IS WHAT COUNTS. Prove the row's statement (the work); the ties are given (YtdajoilaakiinaaGreatDoorTie.lean); close each card by the builder's one call (the guide's Derived/Test/ToyasCard.lean, 'card_holds'). Laid BY PROGRAM, IN A SANDBOX (cutbox-door.mjs). By AI agents, Wed Nov 11 2026. No macro, syntax, notation, axiom, sorry.
-/
import Derived.Test.YtdajoilaakiinaaGreatDoorRows
import GoSem.ClaimSeven
namespace Go.Proofs.YtdajoilaakiinaaGreatDoor
namespace Rows

/-- THE TIED CARD OF 'assessorlaw50.CreditLimits'. -/
def creditLimitsCard : Claim7 := { stood := { row := creditLimitsRow, standIns := [], harness := (true, "e445c17c06a9ba1710d9d393a3aa26a20b942097b3a96140e8add475a1a3fb1f"), looks := false }, kinds := [], alts := [], laidByText := true, laidKinds := [.data, .data, .data, .data], laidTests := true, laidLooks := .later }
def CreditLimitsCardSaid : Prop := Claim7.holds Tryz.pinned (.plain (OpenSpec.ofChange creditLimitsSpec)) creditLimitsCard

/-- THE TIED CARD OF 'assessorlaw50.CreditCombines'. -/
def creditCombinesCard : Claim7 := { stood := { row := creditCombinesRow, standIns := [], harness := (true, "e445c17c06a9ba1710d9d393a3aa26a20b942097b3a96140e8add475a1a3fb1f"), looks := false }, kinds := [], alts := [], laidByText := true, laidKinds := [.data, .data, .data, .data], laidTests := true, laidLooks := .later }
def CreditCombinesCardSaid : Prop := Claim7.holds Tryz.pinned (.plain (OpenSpec.ofChange creditCombinesSpec)) creditCombinesCard

/-- THE TIED CARD OF 'assessorlaw50.CreditOrder'. -/
def creditOrderCard : Claim7 := { stood := { row := creditOrderRow, standIns := [], harness := (true, "e445c17c06a9ba1710d9d393a3aa26a20b942097b3a96140e8add475a1a3fb1f"), looks := false }, kinds := [], alts := [], laidByText := true, laidKinds := [.data, .data, .data, .data], laidTests := true, laidLooks := .later }
def CreditOrderCardSaid : Prop := Claim7.holds Tryz.pinned (.plain (OpenSpec.ofChange creditOrderSpec)) creditOrderCard

/-- THE TIED CARD OF 'assessorlaw50.CreditRises'. -/
def creditRisesCard : Claim7 := { stood := { row := creditRisesRow, standIns := [], harness := (true, "e445c17c06a9ba1710d9d393a3aa26a20b942097b3a96140e8add475a1a3fb1f"), looks := false }, kinds := [], alts := [], laidByText := true, laidKinds := [.data, .data, .data, .data], laidTests := true, laidLooks := .later }
def CreditRisesCardSaid : Prop := Claim7.holds Tryz.pinned (.plain (OpenSpec.ofChange creditRisesSpec)) creditRisesCard

/-- THE TIED CARD OF 'assessorlaw50.CreditBest'. -/
def creditBestCard : Claim7 := { stood := { row := creditBestRow, standIns := [], harness := (true, "e445c17c06a9ba1710d9d393a3aa26a20b942097b3a96140e8add475a1a3fb1f"), looks := false }, kinds := [], alts := [], laidByText := true, laidKinds := [.data, .data, .data, .data], laidTests := true, laidLooks := .later }
def CreditBestCardSaid : Prop := Claim7.holds Tryz.pinned (.plain (OpenSpec.ofChange creditBestSpec)) creditBestCard

/-- THE TIED CARD OF 'assessorlaw50.CreditScales'. -/
def creditScalesCard : Claim7 := { stood := { row := creditScalesRow, standIns := [], harness := (true, "e445c17c06a9ba1710d9d393a3aa26a20b942097b3a96140e8add475a1a3fb1f"), looks := false }, kinds := [], alts := [], laidByText := true, laidKinds := [.data, .data, .data, .data], laidTests := true, laidLooks := .later }
def CreditScalesCardSaid : Prop := Claim7.holds Tryz.pinned (.plain (OpenSpec.ofChange creditScalesSpec)) creditScalesCard

/-- THE TIED CARD OF 'assessorlaw50.CreditAdds'. -/
def creditAddsCard : Claim7 := { stood := { row := creditAddsRow, standIns := [], harness := (true, "e445c17c06a9ba1710d9d393a3aa26a20b942097b3a96140e8add475a1a3fb1f"), looks := false }, kinds := [], alts := [], laidByText := true, laidKinds := [.data, .data, .data, .data], laidTests := true, laidLooks := .later }
def CreditAddsCardSaid : Prop := Claim7.holds Tryz.pinned (.plain (OpenSpec.ofChange creditAddsSpec)) creditAddsCard

/-- THE SECOND FORM's CARD OF 'assessorlaw50.CreditLimits'. -/
def creditLimitsUptoCard : Claim7 := { stood := { row := creditLimitsUptoRow, standIns := [], harness := (true, "e445c17c06a9ba1710d9d393a3aa26a20b942097b3a96140e8add475a1a3fb1f"), looks := false }, kinds := [], alts := [], laidByText := true, laidKinds := [.data, .data, .data, .data], laidTests := true, laidLooks := .later }
def CreditLimitsUptoCardSaid : Prop := Claim7.holds Tryz.pinned (.plain (OpenSpec.upto creditLimitsSpec)) creditLimitsUptoCard

/-- THE SECOND FORM's CARD OF 'assessorlaw50.CreditCombines'. -/
def creditCombinesUptoCard : Claim7 := { stood := { row := creditCombinesUptoRow, standIns := [], harness := (true, "e445c17c06a9ba1710d9d393a3aa26a20b942097b3a96140e8add475a1a3fb1f"), looks := false }, kinds := [], alts := [], laidByText := true, laidKinds := [.data, .data, .data, .data], laidTests := true, laidLooks := .later }
def CreditCombinesUptoCardSaid : Prop := Claim7.holds Tryz.pinned (.plain (OpenSpec.upto creditCombinesSpec)) creditCombinesUptoCard

/-- THE SECOND FORM's CARD OF 'assessorlaw50.CreditOrder'. -/
def creditOrderUptoCard : Claim7 := { stood := { row := creditOrderUptoRow, standIns := [], harness := (true, "e445c17c06a9ba1710d9d393a3aa26a20b942097b3a96140e8add475a1a3fb1f"), looks := false }, kinds := [], alts := [], laidByText := true, laidKinds := [.data, .data, .data, .data], laidTests := true, laidLooks := .later }
def CreditOrderUptoCardSaid : Prop := Claim7.holds Tryz.pinned (.plain (OpenSpec.upto creditOrderSpec)) creditOrderUptoCard

/-- THE SECOND FORM's CARD OF 'assessorlaw50.CreditRises'. -/
def creditRisesUptoCard : Claim7 := { stood := { row := creditRisesUptoRow, standIns := [], harness := (true, "e445c17c06a9ba1710d9d393a3aa26a20b942097b3a96140e8add475a1a3fb1f"), looks := false }, kinds := [], alts := [], laidByText := true, laidKinds := [.data, .data, .data, .data], laidTests := true, laidLooks := .later }
def CreditRisesUptoCardSaid : Prop := Claim7.holds Tryz.pinned (.plain (OpenSpec.upto creditRisesSpec)) creditRisesUptoCard

/-- THE SECOND FORM's CARD OF 'assessorlaw50.CreditBest'. -/
def creditBestUptoCard : Claim7 := { stood := { row := creditBestUptoRow, standIns := [], harness := (true, "e445c17c06a9ba1710d9d393a3aa26a20b942097b3a96140e8add475a1a3fb1f"), looks := false }, kinds := [], alts := [], laidByText := true, laidKinds := [.data, .data, .data, .data], laidTests := true, laidLooks := .later }
def CreditBestUptoCardSaid : Prop := Claim7.holds Tryz.pinned (.plain (OpenSpec.upto creditBestSpec)) creditBestUptoCard

/-- THE SECOND FORM's CARD OF 'assessorlaw50.CreditScales'. -/
def creditScalesUptoCard : Claim7 := { stood := { row := creditScalesUptoRow, standIns := [], harness := (true, "e445c17c06a9ba1710d9d393a3aa26a20b942097b3a96140e8add475a1a3fb1f"), looks := false }, kinds := [], alts := [], laidByText := true, laidKinds := [.data, .data, .data, .data], laidTests := true, laidLooks := .later }
def CreditScalesUptoCardSaid : Prop := Claim7.holds Tryz.pinned (.plain (OpenSpec.upto creditScalesSpec)) creditScalesUptoCard

/-- THE SECOND FORM's CARD OF 'assessorlaw50.CreditAdds'. -/
def creditAddsUptoCard : Claim7 := { stood := { row := creditAddsUptoRow, standIns := [], harness := (true, "e445c17c06a9ba1710d9d393a3aa26a20b942097b3a96140e8add475a1a3fb1f"), looks := false }, kinds := [], alts := [], laidByText := true, laidKinds := [.data, .data, .data, .data], laidTests := true, laidLooks := .later }
def CreditAddsUptoCardSaid : Prop := Claim7.holds Tryz.pinned (.plain (OpenSpec.upto creditAddsSpec)) creditAddsUptoCard
end Rows
end Go.Proofs.YtdajoilaakiinaaGreatDoor
