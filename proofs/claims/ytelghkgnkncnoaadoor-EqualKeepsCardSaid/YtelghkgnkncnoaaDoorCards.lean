/-
  DERIVED. GIVEN WITH THE SEED: THE CARDS: each row of YtelghkgnkncnoaaDoorRows.lean that lists a variable, with what it lists TIED to the program's text (the seventh form; the later family's looks); each row that meets fmt, with fmt's text TOLD by the authors' own Lean function (tested against real Go, not proved from fmt's source: count such statements apart). THE CARD IS WHAT COUNTS. Prove the row's statement (the work); the ties are given (YtelghkgnkncnoaaDoorTie.lean); close each card by the builder's one call (the guide's Derived/Test/ToyasCard.lean, 'card_holds'). Laid BY PROGRAM, IN A SANDBOX (cutbox-door.mjs). By AI agents, Wed Nov 11 2026. No macro, syntax, notation, axiom, sorry.
-/
import Derived.Test.YtelghkgnkncnoaaDoorRows
import GoSem.ClaimSeven
namespace Go.Proofs.YtelghkgnkncnoaaDoor
namespace Rows

/-- THE TIED CARD OF 'capnplaw17.EqualIsEquivalence'. -/
def equalIsEquivalenceCard : Claim7 := { stood := { row := equalIsEquivalenceRow, standIns := [], harness := (true, "6ec70fd0edd24abb5d337bde79ef0bb013abfad9384bdde4bb9ae22e5d9e36aa"), looks := true }, kinds := [], alts := [], laidByText := true, laidKinds := [.funcs, .data], laidTests := true, laidLooks := .later }
def EqualIsEquivalenceCardSaid : Prop := Claim7.holds Tryd.pinned (.plain (OpenSpec.ofChange equalIsEquivalenceSpec)) equalIsEquivalenceCard

/-- THE TIED CARD OF 'capnplaw17.EqualMatchesCanonicalForms'. -/
def equalMatchesCanonicalFormsCard : Claim7 := { stood := { row := equalMatchesCanonicalFormsRow, standIns := [], harness := (true, "6ec70fd0edd24abb5d337bde79ef0bb013abfad9384bdde4bb9ae22e5d9e36aa"), looks := true }, kinds := [], alts := [], laidByText := true, laidKinds := [.funcs, .data], laidTests := true, laidLooks := .later }
def EqualMatchesCanonicalFormsCardSaid : Prop := Claim7.holds Tryd.pinned (.plain (OpenSpec.ofChange equalMatchesCanonicalFormsSpec)) equalMatchesCanonicalFormsCard

/-- THE TIED CARD OF 'capnplaw17.EqualData'. -/
def equalDataCard : Claim7 := { stood := { row := equalDataRow, standIns := [], harness := (true, "6ec70fd0edd24abb5d337bde79ef0bb013abfad9384bdde4bb9ae22e5d9e36aa"), looks := true }, kinds := [], alts := [], laidByText := true, laidKinds := [.funcs, .data], laidTests := true, laidLooks := .later }
def EqualDataCardSaid : Prop := Claim7.holds Tryd.pinned (.plain (OpenSpec.ofChange equalDataSpec)) equalDataCard

/-- THE TIED CARD OF 'capnplaw17.EqualKeeps'. -/
def equalKeepsCard : Claim7 := { stood := { row := equalKeepsRow, standIns := [], harness := (true, "6ec70fd0edd24abb5d337bde79ef0bb013abfad9384bdde4bb9ae22e5d9e36aa"), looks := true }, kinds := [], alts := [], laidByText := true, laidKinds := [.funcs, .data], laidTests := true, laidLooks := .later }
def EqualKeepsCardSaid : Prop := Claim7.holds Tryd.pinned (.plain (OpenSpec.ofChange equalKeepsSpec)) equalKeepsCard

/-- THE TIED CARD OF 'capnplaw28.SampleKeeps'. -/
def sampleKeepsCard : Claim7 := { stood := { row := sampleKeepsRow, standIns := [], harness := (true, "6ec70fd0edd24abb5d337bde79ef0bb013abfad9384bdde4bb9ae22e5d9e36aa"), looks := true }, kinds := [], alts := [], laidByText := true, laidKinds := [.funcs, .data], laidTests := true, laidLooks := .later }
def SampleKeepsCardSaid : Prop := Claim7.holds Tryd.pinned (.plain (OpenSpec.ofChange sampleKeepsSpec)) sampleKeepsCard

/-- THE TIED CARD OF 'capnplaw15.CanonKeeps'. -/
def canonKeepsCard : Claim7 := { stood := { row := canonKeepsRow, standIns := [], harness := (true, "6ec70fd0edd24abb5d337bde79ef0bb013abfad9384bdde4bb9ae22e5d9e36aa"), looks := true }, kinds := [], alts := [], laidByText := true, laidKinds := [.funcs, .data], laidTests := true, laidLooks := .later }
def CanonKeepsCardSaid : Prop := Claim7.holds Tryd.pinned (.plain (OpenSpec.ofChange canonKeepsSpec)) canonKeepsCard

/-- THE SECOND FORM's CARD OF 'capnplaw17.EqualIsEquivalence'. -/
def equalIsEquivalenceUptoCard : Claim7 := { stood := { row := equalIsEquivalenceUptoRow, standIns := [], harness := (true, "6ec70fd0edd24abb5d337bde79ef0bb013abfad9384bdde4bb9ae22e5d9e36aa"), looks := true }, kinds := [], alts := [], laidByText := true, laidKinds := [.funcs, .data], laidTests := true, laidLooks := .later }
def EqualIsEquivalenceUptoCardSaid : Prop := Claim7.holds Tryd.pinned (.plain (OpenSpec.upto equalIsEquivalenceSpec)) equalIsEquivalenceUptoCard

/-- THE SECOND FORM's CARD OF 'capnplaw17.EqualMatchesCanonicalForms'. -/
def equalMatchesCanonicalFormsUptoCard : Claim7 := { stood := { row := equalMatchesCanonicalFormsUptoRow, standIns := [], harness := (true, "6ec70fd0edd24abb5d337bde79ef0bb013abfad9384bdde4bb9ae22e5d9e36aa"), looks := true }, kinds := [], alts := [], laidByText := true, laidKinds := [.funcs, .data], laidTests := true, laidLooks := .later }
def EqualMatchesCanonicalFormsUptoCardSaid : Prop := Claim7.holds Tryd.pinned (.plain (OpenSpec.upto equalMatchesCanonicalFormsSpec)) equalMatchesCanonicalFormsUptoCard

/-- THE SECOND FORM's CARD OF 'capnplaw17.EqualData'. -/
def equalDataUptoCard : Claim7 := { stood := { row := equalDataUptoRow, standIns := [], harness := (true, "6ec70fd0edd24abb5d337bde79ef0bb013abfad9384bdde4bb9ae22e5d9e36aa"), looks := true }, kinds := [], alts := [], laidByText := true, laidKinds := [.funcs, .data], laidTests := true, laidLooks := .later }
def EqualDataUptoCardSaid : Prop := Claim7.holds Tryd.pinned (.plain (OpenSpec.upto equalDataSpec)) equalDataUptoCard

/-- THE SECOND FORM's CARD OF 'capnplaw17.EqualKeeps'. -/
def equalKeepsUptoCard : Claim7 := { stood := { row := equalKeepsUptoRow, standIns := [], harness := (true, "6ec70fd0edd24abb5d337bde79ef0bb013abfad9384bdde4bb9ae22e5d9e36aa"), looks := true }, kinds := [], alts := [], laidByText := true, laidKinds := [.funcs, .data], laidTests := true, laidLooks := .later }
def EqualKeepsUptoCardSaid : Prop := Claim7.holds Tryd.pinned (.plain (OpenSpec.upto equalKeepsSpec)) equalKeepsUptoCard

/-- THE SECOND FORM's CARD OF 'capnplaw28.SampleKeeps'. -/
def sampleKeepsUptoCard : Claim7 := { stood := { row := sampleKeepsUptoRow, standIns := [], harness := (true, "6ec70fd0edd24abb5d337bde79ef0bb013abfad9384bdde4bb9ae22e5d9e36aa"), looks := true }, kinds := [], alts := [], laidByText := true, laidKinds := [.funcs, .data], laidTests := true, laidLooks := .later }
def SampleKeepsUptoCardSaid : Prop := Claim7.holds Tryd.pinned (.plain (OpenSpec.upto sampleKeepsSpec)) sampleKeepsUptoCard

/-- THE SECOND FORM's CARD OF 'capnplaw15.CanonKeeps'. -/
def canonKeepsUptoCard : Claim7 := { stood := { row := canonKeepsUptoRow, standIns := [], harness := (true, "6ec70fd0edd24abb5d337bde79ef0bb013abfad9384bdde4bb9ae22e5d9e36aa"), looks := true }, kinds := [], alts := [], laidByText := true, laidKinds := [.funcs, .data], laidTests := true, laidLooks := .later }
def CanonKeepsUptoCardSaid : Prop := Claim7.holds Tryd.pinned (.plain (OpenSpec.upto canonKeepsSpec)) canonKeepsUptoCard
end Rows
end Go.Proofs.YtelghkgnkncnoaaDoor
