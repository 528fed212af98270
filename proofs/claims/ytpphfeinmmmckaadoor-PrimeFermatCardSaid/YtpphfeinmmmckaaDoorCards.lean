/-
  DERIVED. GIVEN WITH THE SEED: THE CARDS: each row of YtpphfeinmmmckaaDoorRows.lean that lists a variable, with what it lists TIED to the program's text (the seventh form; the later family's looks); each row that meets fmt, with fmt's text TOLD by the authors' own Lean function (tested against real Go, not proved from fmt's source: count such statements apart). THE CARD IS WHAT COUNTS. Prove the row's statement (the work); the ties are given (YtpphfeinmmmckaaDoorTie.lean); close each card by the builder's one call (the guide's Derived/Test/ToyasCard.lean, 'card_holds'). Laid BY PROGRAM, IN A SANDBOX (cutbox-door.mjs). By AI agents, Wed Nov 11 2026. No macro, syntax, notation, axiom, sorry.
-/
import Derived.Test.YtpphfeinmmmckaaDoorRows
import GoSem.ClaimSeven
namespace Go.Proofs.YtpphfeinmmmckaaDoor
namespace Rows

/-- THE TIED CARD OF 'algebristlaw05.PrimeIs'. -/
def primeIsCard : Claim7 := { stood := { row := primeIsRow, standIns := [], harness := (true, "fc0dd0232a47a3cf375d16dbedf2b15c65768b9a4b83a8db533fd49b91898d40"), looks := false }, kinds := [], alts := [], laidByText := true, laidKinds := [.data], laidTests := true, laidLooks := .later }
def PrimeIsCardSaid : Prop := Claim7.holds Tryd.pinned (.plain (OpenSpec.ofChange primeIsSpec)) primeIsCard

/-- THE TIED CARD OF 'algebristlaw05.PrimeProducts'. -/
def primeProductsCard : Claim7 := { stood := { row := primeProductsRow, standIns := [], harness := (true, "fc0dd0232a47a3cf375d16dbedf2b15c65768b9a4b83a8db533fd49b91898d40"), looks := false }, kinds := [], alts := [], laidByText := true, laidKinds := [.data], laidTests := true, laidLooks := .later }
def PrimeProductsCardSaid : Prop := Claim7.holds Tryd.pinned (.plain (OpenSpec.ofChange primeProductsSpec)) primeProductsCard

/-- THE TIED CARD OF 'algebristlaw05.PrimeFermat'. -/
def primeFermatCard : Claim7 := { stood := { row := primeFermatRow, standIns := [], harness := (true, "fc0dd0232a47a3cf375d16dbedf2b15c65768b9a4b83a8db533fd49b91898d40"), looks := false }, kinds := [], alts := [], laidByText := true, laidKinds := [.data], laidTests := true, laidLooks := .later }
def PrimeFermatCardSaid : Prop := Claim7.holds Tryd.pinned (.plain (OpenSpec.ofChange primeFermatSpec)) primeFermatCard

/-- THE TIED CARD OF 'algebristlaw05.PrimeNext'. -/
def primeNextCard : Claim7 := { stood := { row := primeNextRow, standIns := [], harness := (true, "fc0dd0232a47a3cf375d16dbedf2b15c65768b9a4b83a8db533fd49b91898d40"), looks := false }, kinds := [], alts := [], laidByText := true, laidKinds := [.data], laidTests := true, laidLooks := .later }
def PrimeNextCardSaid : Prop := Claim7.holds Tryd.pinned (.plain (OpenSpec.ofChange primeNextSpec)) primeNextCard

/-- THE TIED CARD OF 'algebristlaw05.PrimeFactors'. -/
def primeFactorsCard : Claim7 := { stood := { row := primeFactorsRow, standIns := [], harness := (true, "fc0dd0232a47a3cf375d16dbedf2b15c65768b9a4b83a8db533fd49b91898d40"), looks := false }, kinds := [], alts := [], laidByText := true, laidKinds := [.data], laidTests := true, laidLooks := .later }
def PrimeFactorsCardSaid : Prop := Claim7.holds Tryd.pinned (.plain (OpenSpec.ofChange primeFactorsSpec)) primeFactorsCard

/-- THE TIED CARD OF 'algebristlaw05.PrimeUnique'. -/
def primeUniqueCard : Claim7 := { stood := { row := primeUniqueRow, standIns := [], harness := (true, "fc0dd0232a47a3cf375d16dbedf2b15c65768b9a4b83a8db533fd49b91898d40"), looks := false }, kinds := [], alts := [], laidByText := true, laidKinds := [.data], laidTests := true, laidLooks := .later }
def PrimeUniqueCardSaid : Prop := Claim7.holds Tryd.pinned (.plain (OpenSpec.ofChange primeUniqueSpec)) primeUniqueCard

/-- THE TIED CARD OF 'algebristlaw05.PrimeDraws'. -/
def primeDrawsCard : Claim7 := { stood := { row := primeDrawsRow, standIns := [], harness := (true, "fc0dd0232a47a3cf375d16dbedf2b15c65768b9a4b83a8db533fd49b91898d40"), looks := false }, kinds := [], alts := [], laidByText := true, laidKinds := [.data], laidTests := true, laidLooks := .later }
def PrimeDrawsCardSaid : Prop := Claim7.holds Tryd.pinned (.plain (OpenSpec.ofChange primeDrawsSpec)) primeDrawsCard

/-- THE TIED CARD OF 'algebristlaw05.PrimeHolds'. -/
def primeHoldsCard : Claim7 := { stood := { row := primeHoldsRow, standIns := [], harness := (true, "fc0dd0232a47a3cf375d16dbedf2b15c65768b9a4b83a8db533fd49b91898d40"), looks := false }, kinds := [], alts := [], laidByText := true, laidKinds := [.data], laidTests := true, laidLooks := .later }
def PrimeHoldsCardSaid : Prop := Claim7.holds Tryd.pinned (.plain (OpenSpec.ofChange primeHoldsSpec)) primeHoldsCard

/-- THE TIED CARD OF 'algebristlaw05.PrimeShown'. -/
def primeShownCard : Claim7 := { stood := { row := primeShownRow, standIns := [], harness := (true, "fc0dd0232a47a3cf375d16dbedf2b15c65768b9a4b83a8db533fd49b91898d40"), looks := false }, kinds := [], alts := [], laidByText := true, laidKinds := [.data], laidTests := true, laidLooks := .later }
def PrimeShownCardSaid : Prop := Claim7.holds Tryd.pinned (.plain (OpenSpec.ofChange primeShownSpec)) primeShownCard

/-- THE TIED CARD OF 'algebristlaw05.PrimeProves'. -/
def primeProvesCard : Claim7 := { stood := { row := primeProvesRow, standIns := [], harness := (true, "fc0dd0232a47a3cf375d16dbedf2b15c65768b9a4b83a8db533fd49b91898d40"), looks := false }, kinds := [], alts := [], laidByText := true, laidKinds := [.data], laidTests := true, laidLooks := .later }
def PrimeProvesCardSaid : Prop := Claim7.holds Tryd.pinned (.plain (OpenSpec.ofChange primeProvesSpec)) primeProvesCard

/-- THE SECOND FORM's CARD OF 'algebristlaw05.PrimeIs'. -/
def primeIsUptoCard : Claim7 := { stood := { row := primeIsUptoRow, standIns := [], harness := (true, "fc0dd0232a47a3cf375d16dbedf2b15c65768b9a4b83a8db533fd49b91898d40"), looks := false }, kinds := [], alts := [], laidByText := true, laidKinds := [.data], laidTests := true, laidLooks := .later }
def PrimeIsUptoCardSaid : Prop := Claim7.holds Tryd.pinned (.plain (OpenSpec.upto primeIsSpec)) primeIsUptoCard

/-- THE SECOND FORM's CARD OF 'algebristlaw05.PrimeProducts'. -/
def primeProductsUptoCard : Claim7 := { stood := { row := primeProductsUptoRow, standIns := [], harness := (true, "fc0dd0232a47a3cf375d16dbedf2b15c65768b9a4b83a8db533fd49b91898d40"), looks := false }, kinds := [], alts := [], laidByText := true, laidKinds := [.data], laidTests := true, laidLooks := .later }
def PrimeProductsUptoCardSaid : Prop := Claim7.holds Tryd.pinned (.plain (OpenSpec.upto primeProductsSpec)) primeProductsUptoCard

/-- THE SECOND FORM's CARD OF 'algebristlaw05.PrimeFermat'. -/
def primeFermatUptoCard : Claim7 := { stood := { row := primeFermatUptoRow, standIns := [], harness := (true, "fc0dd0232a47a3cf375d16dbedf2b15c65768b9a4b83a8db533fd49b91898d40"), looks := false }, kinds := [], alts := [], laidByText := true, laidKinds := [.data], laidTests := true, laidLooks := .later }
def PrimeFermatUptoCardSaid : Prop := Claim7.holds Tryd.pinned (.plain (OpenSpec.upto primeFermatSpec)) primeFermatUptoCard

/-- THE SECOND FORM's CARD OF 'algebristlaw05.PrimeNext'. -/
def primeNextUptoCard : Claim7 := { stood := { row := primeNextUptoRow, standIns := [], harness := (true, "fc0dd0232a47a3cf375d16dbedf2b15c65768b9a4b83a8db533fd49b91898d40"), looks := false }, kinds := [], alts := [], laidByText := true, laidKinds := [.data], laidTests := true, laidLooks := .later }
def PrimeNextUptoCardSaid : Prop := Claim7.holds Tryd.pinned (.plain (OpenSpec.upto primeNextSpec)) primeNextUptoCard

/-- THE SECOND FORM's CARD OF 'algebristlaw05.PrimeFactors'. -/
def primeFactorsUptoCard : Claim7 := { stood := { row := primeFactorsUptoRow, standIns := [], harness := (true, "fc0dd0232a47a3cf375d16dbedf2b15c65768b9a4b83a8db533fd49b91898d40"), looks := false }, kinds := [], alts := [], laidByText := true, laidKinds := [.data], laidTests := true, laidLooks := .later }
def PrimeFactorsUptoCardSaid : Prop := Claim7.holds Tryd.pinned (.plain (OpenSpec.upto primeFactorsSpec)) primeFactorsUptoCard

/-- THE SECOND FORM's CARD OF 'algebristlaw05.PrimeUnique'. -/
def primeUniqueUptoCard : Claim7 := { stood := { row := primeUniqueUptoRow, standIns := [], harness := (true, "fc0dd0232a47a3cf375d16dbedf2b15c65768b9a4b83a8db533fd49b91898d40"), looks := false }, kinds := [], alts := [], laidByText := true, laidKinds := [.data], laidTests := true, laidLooks := .later }
def PrimeUniqueUptoCardSaid : Prop := Claim7.holds Tryd.pinned (.plain (OpenSpec.upto primeUniqueSpec)) primeUniqueUptoCard

/-- THE SECOND FORM's CARD OF 'algebristlaw05.PrimeDraws'. -/
def primeDrawsUptoCard : Claim7 := { stood := { row := primeDrawsUptoRow, standIns := [], harness := (true, "fc0dd0232a47a3cf375d16dbedf2b15c65768b9a4b83a8db533fd49b91898d40"), looks := false }, kinds := [], alts := [], laidByText := true, laidKinds := [.data], laidTests := true, laidLooks := .later }
def PrimeDrawsUptoCardSaid : Prop := Claim7.holds Tryd.pinned (.plain (OpenSpec.upto primeDrawsSpec)) primeDrawsUptoCard

/-- THE SECOND FORM's CARD OF 'algebristlaw05.PrimeHolds'. -/
def primeHoldsUptoCard : Claim7 := { stood := { row := primeHoldsUptoRow, standIns := [], harness := (true, "fc0dd0232a47a3cf375d16dbedf2b15c65768b9a4b83a8db533fd49b91898d40"), looks := false }, kinds := [], alts := [], laidByText := true, laidKinds := [.data], laidTests := true, laidLooks := .later }
def PrimeHoldsUptoCardSaid : Prop := Claim7.holds Tryd.pinned (.plain (OpenSpec.upto primeHoldsSpec)) primeHoldsUptoCard

/-- THE SECOND FORM's CARD OF 'algebristlaw05.PrimeShown'. -/
def primeShownUptoCard : Claim7 := { stood := { row := primeShownUptoRow, standIns := [], harness := (true, "fc0dd0232a47a3cf375d16dbedf2b15c65768b9a4b83a8db533fd49b91898d40"), looks := false }, kinds := [], alts := [], laidByText := true, laidKinds := [.data], laidTests := true, laidLooks := .later }
def PrimeShownUptoCardSaid : Prop := Claim7.holds Tryd.pinned (.plain (OpenSpec.upto primeShownSpec)) primeShownUptoCard

/-- THE SECOND FORM's CARD OF 'algebristlaw05.PrimeProves'. -/
def primeProvesUptoCard : Claim7 := { stood := { row := primeProvesUptoRow, standIns := [], harness := (true, "fc0dd0232a47a3cf375d16dbedf2b15c65768b9a4b83a8db533fd49b91898d40"), looks := false }, kinds := [], alts := [], laidByText := true, laidKinds := [.data], laidTests := true, laidLooks := .later }
def PrimeProvesUptoCardSaid : Prop := Claim7.holds Tryd.pinned (.plain (OpenSpec.upto primeProvesSpec)) primeProvesUptoCard
end Rows
end Go.Proofs.YtpphfeinmmmckaaDoor
