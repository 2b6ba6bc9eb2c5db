/-
  DERIVED. GIVEN WITH THE SEED: THE CARDS: each row of YtjnahfpnehmehaaGreatDoorRows.lean that lists a variable, with what it lists TIED to the program's text (the seventh form; the later family's looks); each row that meets fmt, with fmt's text TOLD by the authors' own Lean function (tested against real Go, not proved from fmt's source: count such statements apart). THE CARD IS WHAT COUNTS. Prove the row's statement (the work); the ties are given (YtjnahfpnehmehaaGreatDoorTie.lean); close each card by the builder's one call (the guide's Derived/Test/ToyasCard.lean, 'card_holds'). Laid BY PROGRAM, IN A SANDBOX (cutbox-door.mjs). By AI agents, Wed Nov 11 2026. No macro, syntax, notation, axiom, sorry.
-/
import Derived.Test.YtjnahfpnehmehaaGreatDoorRows
import GoSem.ClaimSeven
namespace Go.Proofs.YtjnahfpnehmehaaGreatDoor
namespace Rows

/-- THE TIED CARD OF 'fleuronlaw18.ContentCuts'. -/
def contentCutsCard : Claim7 := { stood := { row := contentCutsRow, standIns := [], harness := (true, "42d9bcd8abba7e7dc589b9990cabdf14f96a5428a39f3d8e27f121bf63d63c59"), looks := false }, kinds := [], alts := [], laidByText := true, laidKinds := [.data, .listed, .data, .pinned, .pinned], laidTests := true, laidLooks := .later }
def ContentCutsCardSaid : Prop := Claim7.holds Tryz.pinned (.plain (OpenSpec.ofChange contentCutsSpec)) contentCutsCard

/-- THE TIED CARD OF 'fleuronlaw18.ContentJoins'. -/
def contentJoinsCard : Claim7 := { stood := { row := contentJoinsRow, standIns := [], harness := (true, "42d9bcd8abba7e7dc589b9990cabdf14f96a5428a39f3d8e27f121bf63d63c59"), looks := false }, kinds := [], alts := [], laidByText := true, laidKinds := [.data, .listed, .data, .pinned, .pinned], laidTests := true, laidLooks := .later }
def ContentJoinsCardSaid : Prop := Claim7.holds Tryz.pinned (.plain (OpenSpec.ofChange contentJoinsSpec)) contentJoinsCard

/-- THE TIED CARD OF 'fleuronlaw18.ContentCounters'. -/
def contentCountersCard : Claim7 := { stood := { row := contentCountersRow, standIns := [], harness := (true, "42d9bcd8abba7e7dc589b9990cabdf14f96a5428a39f3d8e27f121bf63d63c59"), looks := false }, kinds := [], alts := [], laidByText := true, laidKinds := [.data, .listed, .data, .pinned, .pinned], laidTests := true, laidLooks := .later }
def ContentCountersCardSaid : Prop := Claim7.holds Tryz.pinned (.plain (OpenSpec.ofChange contentCountersSpec)) contentCountersCard

/-- THE TIED CARD OF 'fleuronlaw18.ContentAttrs'. -/
def contentAttrsCard : Claim7 := { stood := { row := contentAttrsRow, standIns := [], harness := (true, "42d9bcd8abba7e7dc589b9990cabdf14f96a5428a39f3d8e27f121bf63d63c59"), looks := false }, kinds := [], alts := [], laidByText := true, laidKinds := [.data, .listed, .data, .pinned, .pinned], laidTests := true, laidLooks := .later }
def ContentAttrsCardSaid : Prop := Claim7.holds Tryz.pinned (.plain (OpenSpec.ofChange contentAttrsSpec)) contentAttrsCard

/-- THE TIED CARD OF 'fleuronlaw11.RegistryRoman'. -/
def registryRomanCard : Claim7 := { stood := { row := registryRomanRow, standIns := [], harness := (true, "42d9bcd8abba7e7dc589b9990cabdf14f96a5428a39f3d8e27f121bf63d63c59"), looks := false }, kinds := [], alts := [], laidByText := true, laidKinds := [.data, .listed, .data, .pinned, .pinned], laidTests := true, laidLooks := .later }
def RegistryRomanCardSaid : Prop := Claim7.holds Tryz.pinned (.plain (OpenSpec.ofChange registryRomanSpec)) registryRomanCard

/-- THE TIED CARD OF 'fleuronlaw11.RegistryPads'. -/
def registryPadsCard : Claim7 := { stood := { row := registryPadsRow, standIns := [], harness := (true, "42d9bcd8abba7e7dc589b9990cabdf14f96a5428a39f3d8e27f121bf63d63c59"), looks := false }, kinds := [], alts := [], laidByText := true, laidKinds := [.data, .listed, .data, .pinned, .pinned], laidTests := true, laidLooks := .later }
def RegistryPadsCardSaid : Prop := Claim7.holds Tryz.pinned (.plain (OpenSpec.ofChange registryPadsSpec)) registryPadsCard

/-- THE TIED CARD OF 'fleuronlaw11.RegistryChain'. -/
def registryChainCard : Claim7 := { stood := { row := registryChainRow, standIns := [], harness := (true, "42d9bcd8abba7e7dc589b9990cabdf14f96a5428a39f3d8e27f121bf63d63c59"), looks := false }, kinds := [], alts := [], laidByText := true, laidKinds := [.data, .listed, .data, .pinned, .pinned], laidTests := true, laidLooks := .later }
def RegistryChainCardSaid : Prop := Claim7.holds Tryz.pinned (.plain (OpenSpec.ofChange registryChainSpec)) registryChainCard

/-- THE TIED CARD OF 'fleuronlaw11.RegistryAround'. -/
def registryAroundCard : Claim7 := { stood := { row := registryAroundRow, standIns := [], harness := (true, "42d9bcd8abba7e7dc589b9990cabdf14f96a5428a39f3d8e27f121bf63d63c59"), looks := false }, kinds := [], alts := [], laidByText := true, laidKinds := [.data, .listed, .data, .pinned, .pinned], laidTests := true, laidLooks := .later }
def RegistryAroundCardSaid : Prop := Claim7.holds Tryz.pinned (.plain (OpenSpec.ofChange registryAroundSpec)) registryAroundCard

/-- THE TIED CARD OF 'fleuronlaw11.RegistryExtends'. -/
def registryExtendsCard : Claim7 := { stood := { row := registryExtendsRow, standIns := [], harness := (true, "42d9bcd8abba7e7dc589b9990cabdf14f96a5428a39f3d8e27f121bf63d63c59"), looks := false }, kinds := [], alts := [], laidByText := true, laidKinds := [.data, .listed, .data, .pinned, .pinned], laidTests := true, laidLooks := .later }
def RegistryExtendsCardSaid : Prop := Claim7.holds Tryz.pinned (.plain (OpenSpec.ofChange registryExtendsSpec)) registryExtendsCard

/-- THE TIED CARD OF 'fleuronlaw11.RegistryOwn'. -/
def registryOwnCard : Claim7 := { stood := { row := registryOwnRow, standIns := [], harness := (true, "42d9bcd8abba7e7dc589b9990cabdf14f96a5428a39f3d8e27f121bf63d63c59"), looks := false }, kinds := [], alts := [], laidByText := true, laidKinds := [.data, .listed, .data, .pinned, .pinned], laidTests := true, laidLooks := .later }
def RegistryOwnCardSaid : Prop := Claim7.holds Tryz.pinned (.plain (OpenSpec.ofChange registryOwnSpec)) registryOwnCard

/-- THE TIED CARD OF 'fleuronlaw11.RegistryLetters'. -/
def registryLettersCard : Claim7 := { stood := { row := registryLettersRow, standIns := [], harness := (true, "42d9bcd8abba7e7dc589b9990cabdf14f96a5428a39f3d8e27f121bf63d63c59"), looks := false }, kinds := [], alts := [], laidByText := true, laidKinds := [.data, .listed, .data, .pinned, .pinned], laidTests := true, laidLooks := .later }
def RegistryLettersCardSaid : Prop := Claim7.holds Tryz.pinned (.plain (OpenSpec.ofChange registryLettersSpec)) registryLettersCard

/-- THE SECOND FORM's CARD OF 'fleuronlaw18.ContentCuts'. -/
def contentCutsUptoCard : Claim7 := { stood := { row := contentCutsUptoRow, standIns := [], harness := (true, "42d9bcd8abba7e7dc589b9990cabdf14f96a5428a39f3d8e27f121bf63d63c59"), looks := false }, kinds := [], alts := [], laidByText := true, laidKinds := [.data, .listed, .data, .pinned, .pinned], laidTests := true, laidLooks := .later }
def ContentCutsUptoCardSaid : Prop := Claim7.holds Tryz.pinned (.plain (OpenSpec.upto contentCutsSpec)) contentCutsUptoCard

/-- THE SECOND FORM's CARD OF 'fleuronlaw18.ContentJoins'. -/
def contentJoinsUptoCard : Claim7 := { stood := { row := contentJoinsUptoRow, standIns := [], harness := (true, "42d9bcd8abba7e7dc589b9990cabdf14f96a5428a39f3d8e27f121bf63d63c59"), looks := false }, kinds := [], alts := [], laidByText := true, laidKinds := [.data, .listed, .data, .pinned, .pinned], laidTests := true, laidLooks := .later }
def ContentJoinsUptoCardSaid : Prop := Claim7.holds Tryz.pinned (.plain (OpenSpec.upto contentJoinsSpec)) contentJoinsUptoCard

/-- THE SECOND FORM's CARD OF 'fleuronlaw18.ContentCounters'. -/
def contentCountersUptoCard : Claim7 := { stood := { row := contentCountersUptoRow, standIns := [], harness := (true, "42d9bcd8abba7e7dc589b9990cabdf14f96a5428a39f3d8e27f121bf63d63c59"), looks := false }, kinds := [], alts := [], laidByText := true, laidKinds := [.data, .listed, .data, .pinned, .pinned], laidTests := true, laidLooks := .later }
def ContentCountersUptoCardSaid : Prop := Claim7.holds Tryz.pinned (.plain (OpenSpec.upto contentCountersSpec)) contentCountersUptoCard

/-- THE SECOND FORM's CARD OF 'fleuronlaw18.ContentAttrs'. -/
def contentAttrsUptoCard : Claim7 := { stood := { row := contentAttrsUptoRow, standIns := [], harness := (true, "42d9bcd8abba7e7dc589b9990cabdf14f96a5428a39f3d8e27f121bf63d63c59"), looks := false }, kinds := [], alts := [], laidByText := true, laidKinds := [.data, .listed, .data, .pinned, .pinned], laidTests := true, laidLooks := .later }
def ContentAttrsUptoCardSaid : Prop := Claim7.holds Tryz.pinned (.plain (OpenSpec.upto contentAttrsSpec)) contentAttrsUptoCard

/-- THE SECOND FORM's CARD OF 'fleuronlaw11.RegistryRoman'. -/
def registryRomanUptoCard : Claim7 := { stood := { row := registryRomanUptoRow, standIns := [], harness := (true, "42d9bcd8abba7e7dc589b9990cabdf14f96a5428a39f3d8e27f121bf63d63c59"), looks := false }, kinds := [], alts := [], laidByText := true, laidKinds := [.data, .listed, .data, .pinned, .pinned], laidTests := true, laidLooks := .later }
def RegistryRomanUptoCardSaid : Prop := Claim7.holds Tryz.pinned (.plain (OpenSpec.upto registryRomanSpec)) registryRomanUptoCard

/-- THE SECOND FORM's CARD OF 'fleuronlaw11.RegistryPads'. -/
def registryPadsUptoCard : Claim7 := { stood := { row := registryPadsUptoRow, standIns := [], harness := (true, "42d9bcd8abba7e7dc589b9990cabdf14f96a5428a39f3d8e27f121bf63d63c59"), looks := false }, kinds := [], alts := [], laidByText := true, laidKinds := [.data, .listed, .data, .pinned, .pinned], laidTests := true, laidLooks := .later }
def RegistryPadsUptoCardSaid : Prop := Claim7.holds Tryz.pinned (.plain (OpenSpec.upto registryPadsSpec)) registryPadsUptoCard

/-- THE SECOND FORM's CARD OF 'fleuronlaw11.RegistryChain'. -/
def registryChainUptoCard : Claim7 := { stood := { row := registryChainUptoRow, standIns := [], harness := (true, "42d9bcd8abba7e7dc589b9990cabdf14f96a5428a39f3d8e27f121bf63d63c59"), looks := false }, kinds := [], alts := [], laidByText := true, laidKinds := [.data, .listed, .data, .pinned, .pinned], laidTests := true, laidLooks := .later }
def RegistryChainUptoCardSaid : Prop := Claim7.holds Tryz.pinned (.plain (OpenSpec.upto registryChainSpec)) registryChainUptoCard

/-- THE SECOND FORM's CARD OF 'fleuronlaw11.RegistryAround'. -/
def registryAroundUptoCard : Claim7 := { stood := { row := registryAroundUptoRow, standIns := [], harness := (true, "42d9bcd8abba7e7dc589b9990cabdf14f96a5428a39f3d8e27f121bf63d63c59"), looks := false }, kinds := [], alts := [], laidByText := true, laidKinds := [.data, .listed, .data, .pinned, .pinned], laidTests := true, laidLooks := .later }
def RegistryAroundUptoCardSaid : Prop := Claim7.holds Tryz.pinned (.plain (OpenSpec.upto registryAroundSpec)) registryAroundUptoCard

/-- THE SECOND FORM's CARD OF 'fleuronlaw11.RegistryExtends'. -/
def registryExtendsUptoCard : Claim7 := { stood := { row := registryExtendsUptoRow, standIns := [], harness := (true, "42d9bcd8abba7e7dc589b9990cabdf14f96a5428a39f3d8e27f121bf63d63c59"), looks := false }, kinds := [], alts := [], laidByText := true, laidKinds := [.data, .listed, .data, .pinned, .pinned], laidTests := true, laidLooks := .later }
def RegistryExtendsUptoCardSaid : Prop := Claim7.holds Tryz.pinned (.plain (OpenSpec.upto registryExtendsSpec)) registryExtendsUptoCard

/-- THE SECOND FORM's CARD OF 'fleuronlaw11.RegistryOwn'. -/
def registryOwnUptoCard : Claim7 := { stood := { row := registryOwnUptoRow, standIns := [], harness := (true, "42d9bcd8abba7e7dc589b9990cabdf14f96a5428a39f3d8e27f121bf63d63c59"), looks := false }, kinds := [], alts := [], laidByText := true, laidKinds := [.data, .listed, .data, .pinned, .pinned], laidTests := true, laidLooks := .later }
def RegistryOwnUptoCardSaid : Prop := Claim7.holds Tryz.pinned (.plain (OpenSpec.upto registryOwnSpec)) registryOwnUptoCard

/-- THE SECOND FORM's CARD OF 'fleuronlaw11.RegistryLetters'. -/
def registryLettersUptoCard : Claim7 := { stood := { row := registryLettersUptoRow, standIns := [], harness := (true, "42d9bcd8abba7e7dc589b9990cabdf14f96a5428a39f3d8e27f121bf63d63c59"), looks := false }, kinds := [], alts := [], laidByText := true, laidKinds := [.data, .listed, .data, .pinned, .pinned], laidTests := true, laidLooks := .later }
def RegistryLettersUptoCardSaid : Prop := Claim7.holds Tryz.pinned (.plain (OpenSpec.upto registryLettersSpec)) registryLettersUptoCard
end Rows
end Go.Proofs.YtjnahfpnehmehaaGreatDoor
