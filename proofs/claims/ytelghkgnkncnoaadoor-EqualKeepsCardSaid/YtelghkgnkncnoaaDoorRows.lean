/-
  NARROWER THAN 'FOR EVERY INPUT', by the rows' own cells (each row's printed sentence says how): EqualIsEquivalence: laid · EqualMatchesCanonicalForms: laid · EqualData: laid · EqualKeeps: laid · SampleKeeps: loops, laid · CanonKeeps: laid.
  DERIVED. THE GIVEN ROWS OF THIS SEAT. 6 by the template 'for every input the law returns true; each argument reads behind the call as it read before'; 0 by the template 'total and deterministic' (their statements: YtelghkgnkncnoaaDoorTotals.lean).
  GIVEN WITH THE SEED: the statements are not yours to turn. If you find one false, say at which input.
  Laid BY PROGRAM, IN A SANDBOX (cutbox-rows.mjs): the forced cells as the released guide's own fill.sh prints them over the translation c251be4a31a4cdb3… (all of the seat's roots in one cut). By AI agents, Wed Nov 11 2026. No macro, syntax, notation, axiom, sorry.
-/
import Derived.Test.YtelghkgnkncnoaaDoorChecked
import GoSem.Claim
import GoSem.ClaimJoined
import GoSem.ClaimMapViews
import Derived.JoinedTies
import Derived.KernelRfl
namespace Go.Proofs.YtelghkgnkncnoaaDoor
/- THE CELL 'sum', in the pinned program and in every row, IS THE sha256 OF THE DUMP (.gsa) THAT YtelghkgnkncnoaaDoorProg.lean LOADS. Nothing in Lean hashes anything: it is a label: what it is worth is what the hold of that sum in a sandbox is worth. -/
noncomputable def Tryd.pinned : Pinned := { name := "ytelghkgnkncnoaadoor", sum := "c251be4a31a4cdb3c9e4eb8878b50855671c1d83f9d591468fb8a2d994982eee", checked := Tryd.checked }
namespace Rows
def none {H : Type} : Left H := { results := [], args := [] }

/- WHAT THE LISTED PACKAGE-LEVEL VARIABLES READ AS WHEN THE CALL BEGINS. Each datum BY PROGRAM (the guide's laid-datum.mjs) off the statement by which the dump's own 'gosem.cut.vars' lays the variable. In a bare row this is a premise. The card (YtelghkgnkncnoaaDoorCards.lean) ties it to the program's text. -/
def laid_capnp_pointer_decoders {H : Type} : DataW H := .iface "func table" (.map [(.int .i64 0, .iface "func" (.lit (.string [99, 97, 112, 110, 112, 47, 112, 111, 105, 110, 116, 101, 114, 46, 100, 101, 99, 111, 100, 101, 114, 115, 36, 49]))), (.int .i64 1, .iface "func" (.lit (.string [99, 97, 112, 110, 112, 47, 112, 111, 105, 110, 116, 101, 114, 46, 100, 101, 99, 111, 100, 101, 114, 115, 36, 50]))), (.int .i64 2, .iface "func" (.lit (.string [99, 97, 112, 110, 112, 47, 112, 111, 105, 110, 116, 101, 114, 46, 100, 101, 99, 111, 100, 101, 114, 115, 36, 51]))), (.int .i64 3, .iface "func" (.lit (.string [99, 97, 112, 110, 112, 47, 112, 111, 105, 110, 116, 101, 114, 46, 100, 101, 99, 111, 100, 101, 114, 115, 36, 52])))])
def laid_capnp_listsize_bits {H : Type} : DataW H := .agg [.lit (.int .i64 0), .lit (.int .i64 1), .lit (.int .i64 8), .lit (.int .i64 16), .lit (.int .i64 32), .lit (.int .i64 64), .lit (.int .i64 64), .lit (.int .i64 0)]

/-- 'capnplaw17.EqualIsEquivalence': WHATEVER THE INPUT: true; the input reads as it did. -/
def equalIsEquivalenceSpec : ChangeSpec := { name := "equalIsEquivalence", fn := fun _ => fun
  | [d1, d2, d3, d4] => { results := [.lit (.bool true)], args := [d1, d2, d3, d4] }
  | _ => none }
def equalIsEquivalenceRow : OpenClaim := { program := "ytelghkgnkncnoaadoor", sum := "c251be4a31a4cdb3c9e4eb8878b50855671c1d83f9d591468fb8a2d994982eee", func := "capnp/capnplaw17.EqualIsEquivalence", spec := "equalIsEquivalence", unfollowed := true, recurses := true, named := ["capnp/pointer.decoders", "capnp/listsize.bits"], apart := false, laid := [("capnp/pointer.decoders", laid_capnp_pointer_decoders), ("capnp/listsize.bits", laid_capnp_listsize_bits)] }
def EqualIsEquivalenceSaid : Prop := equalIsEquivalenceRow.holds Tryd.pinned (OpenSpec.ofChange equalIsEquivalenceSpec)

/-- ITS FALSE NEIGHBOUR: 'it returns false'. Refute it at one input. -/
def equalIsEquivalenceWrong : ChangeSpec := { name := "equalIsEquivalence", fn := fun _ => fun
  | [d1, d2, d3, d4] => { results := [.lit (.bool false)], args := [d1, d2, d3, d4] }
  | _ => none }
def EqualIsEquivalenceWrongFalsely : Prop := equalIsEquivalenceRow.holds Tryd.pinned (OpenSpec.ofChange equalIsEquivalenceWrong)

/-- 'capnplaw17.EqualMatchesCanonicalForms': WHATEVER THE INPUT: true; the input reads as it did. -/
def equalMatchesCanonicalFormsSpec : ChangeSpec := { name := "equalMatchesCanonicalForms", fn := fun _ => fun
  | [d1, d2, d3] => { results := [.lit (.bool true)], args := [d1, d2, d3] }
  | _ => none }
def equalMatchesCanonicalFormsRow : OpenClaim := { program := "ytelghkgnkncnoaadoor", sum := "c251be4a31a4cdb3c9e4eb8878b50855671c1d83f9d591468fb8a2d994982eee", func := "capnp/capnplaw17.EqualMatchesCanonicalForms", spec := "equalMatchesCanonicalForms", unfollowed := true, recurses := true, named := ["capnp/pointer.decoders", "capnp/listsize.bits"], apart := false, laid := [("capnp/pointer.decoders", laid_capnp_pointer_decoders), ("capnp/listsize.bits", laid_capnp_listsize_bits)] }
def EqualMatchesCanonicalFormsSaid : Prop := equalMatchesCanonicalFormsRow.holds Tryd.pinned (OpenSpec.ofChange equalMatchesCanonicalFormsSpec)

/-- ITS FALSE NEIGHBOUR: 'it returns false'. Refute it at one input. -/
def equalMatchesCanonicalFormsWrong : ChangeSpec := { name := "equalMatchesCanonicalForms", fn := fun _ => fun
  | [d1, d2, d3] => { results := [.lit (.bool false)], args := [d1, d2, d3] }
  | _ => none }
def EqualMatchesCanonicalFormsWrongFalsely : Prop := equalMatchesCanonicalFormsRow.holds Tryd.pinned (OpenSpec.ofChange equalMatchesCanonicalFormsWrong)

/-- 'capnplaw17.EqualData': WHATEVER THE INPUT: true; the input reads as it did. -/
def equalDataSpec : ChangeSpec := { name := "equalData", fn := fun _ => fun
  | [d1, d2, d3, d4] => { results := [.lit (.bool true)], args := [d1, d2, d3, d4] }
  | _ => none }
def equalDataRow : OpenClaim := { program := "ytelghkgnkncnoaadoor", sum := "c251be4a31a4cdb3c9e4eb8878b50855671c1d83f9d591468fb8a2d994982eee", func := "capnp/capnplaw17.EqualData", spec := "equalData", unfollowed := true, recurses := true, named := ["capnp/pointer.decoders", "capnp/listsize.bits"], apart := false, laid := [("capnp/pointer.decoders", laid_capnp_pointer_decoders), ("capnp/listsize.bits", laid_capnp_listsize_bits)] }
def EqualDataSaid : Prop := equalDataRow.holds Tryd.pinned (OpenSpec.ofChange equalDataSpec)

/-- ITS FALSE NEIGHBOUR: 'it returns false'. Refute it at one input. -/
def equalDataWrong : ChangeSpec := { name := "equalData", fn := fun _ => fun
  | [d1, d2, d3, d4] => { results := [.lit (.bool false)], args := [d1, d2, d3, d4] }
  | _ => none }
def EqualDataWrongFalsely : Prop := equalDataRow.holds Tryd.pinned (OpenSpec.ofChange equalDataWrong)

/-- 'capnplaw17.EqualKeeps': WHATEVER THE INPUT: true; the input reads as it did. -/
def equalKeepsSpec : ChangeSpec := { name := "equalKeeps", fn := fun _ => fun
  | [d1, d2, d3] => { results := [.lit (.bool true)], args := [d1, d2, d3] }
  | _ => none }
def equalKeepsRow : OpenClaim := { program := "ytelghkgnkncnoaadoor", sum := "c251be4a31a4cdb3c9e4eb8878b50855671c1d83f9d591468fb8a2d994982eee", func := "capnp/capnplaw17.EqualKeeps", spec := "equalKeeps", unfollowed := true, recurses := true, named := ["capnp/pointer.decoders", "capnp/listsize.bits"], apart := false, laid := [("capnp/pointer.decoders", laid_capnp_pointer_decoders), ("capnp/listsize.bits", laid_capnp_listsize_bits)] }
def EqualKeepsSaid : Prop := equalKeepsRow.holds Tryd.pinned (OpenSpec.ofChange equalKeepsSpec)

/-- ITS FALSE NEIGHBOUR: 'it returns false'. Refute it at one input. -/
def equalKeepsWrong : ChangeSpec := { name := "equalKeeps", fn := fun _ => fun
  | [d1, d2, d3] => { results := [.lit (.bool false)], args := [d1, d2, d3] }
  | _ => none }
def EqualKeepsWrongFalsely : Prop := equalKeepsRow.holds Tryd.pinned (OpenSpec.ofChange equalKeepsWrong)

/-- 'capnplaw28.SampleKeeps': WHATEVER THE INPUT: true; the input reads as it did. -/
def sampleKeepsSpec : ChangeSpec := { name := "sampleKeeps", fn := fun _ => fun
  | [d1, d2] => { results := [.lit (.bool true)], args := [d1, d2] }
  | _ => none }
def sampleKeepsRow : OpenClaim := { program := "ytelghkgnkncnoaadoor", sum := "c251be4a31a4cdb3c9e4eb8878b50855671c1d83f9d591468fb8a2d994982eee", func := "capnp/capnplaw28.SampleKeeps", spec := "sampleKeeps", unfollowed := true, recurses := true, named := ["capnp/pointer.decoders", "capnp/listsize.bits"], loops := true, apart := false, laid := [("capnp/pointer.decoders", laid_capnp_pointer_decoders), ("capnp/listsize.bits", laid_capnp_listsize_bits)] }
def SampleKeepsSaid : Prop := sampleKeepsRow.holds Tryd.pinned (OpenSpec.ofChange sampleKeepsSpec)

/-- ITS FALSE NEIGHBOUR: 'it returns false'. Refute it at one input. -/
def sampleKeepsWrong : ChangeSpec := { name := "sampleKeeps", fn := fun _ => fun
  | [d1, d2] => { results := [.lit (.bool false)], args := [d1, d2] }
  | _ => none }
def SampleKeepsWrongFalsely : Prop := sampleKeepsRow.holds Tryd.pinned (OpenSpec.ofChange sampleKeepsWrong)

/-- 'capnplaw15.CanonKeeps': WHATEVER THE INPUT: true; the input reads as it did. -/
def canonKeepsSpec : ChangeSpec := { name := "canonKeeps", fn := fun _ => fun
  | [d1, d2] => { results := [.lit (.bool true)], args := [d1, d2] }
  | _ => none }
def canonKeepsRow : OpenClaim := { program := "ytelghkgnkncnoaadoor", sum := "c251be4a31a4cdb3c9e4eb8878b50855671c1d83f9d591468fb8a2d994982eee", func := "capnp/capnplaw15.CanonKeeps", spec := "canonKeeps", unfollowed := true, recurses := true, named := ["capnp/pointer.decoders", "capnp/listsize.bits"], apart := false, laid := [("capnp/pointer.decoders", laid_capnp_pointer_decoders), ("capnp/listsize.bits", laid_capnp_listsize_bits)] }
def CanonKeepsSaid : Prop := canonKeepsRow.holds Tryd.pinned (OpenSpec.ofChange canonKeepsSpec)

/-- ITS FALSE NEIGHBOUR: 'it returns false'. Refute it at one input. -/
def canonKeepsWrong : ChangeSpec := { name := "canonKeeps", fn := fun _ => fun
  | [d1, d2] => { results := [.lit (.bool false)], args := [d1, d2] }
  | _ => none }
def CanonKeepsWrongFalsely : Prop := canonKeepsRow.holds Tryd.pinned (OpenSpec.ofChange canonKeepsWrong)

/- THE SECOND FORM. 'bulk': how many values and letters a reading holds, each counted each time it is reached (what is shared counts as often as it is met; a slice's spare places count too). A statement '..UptoSaid' is the law's where the arguments, and the package variables that the reading takes, are together of bulk at most 1048576: NARROWER than '..Said'. Prove '..Said' where nothing that the law and all that it calls make is longer than what came in: it says more and counts as full. Else prove '..UptoSaid'. A law counts once. -/
mutual
def uptoBulk {H : Type} : DataW H → Nat
  | .lit (.string bytes) => bytes.length + 1
  | .lit _ => 1
  | .nil => 1
  | .ptr d => uptoBulk d + 1
  | .slice elems spare => uptoBulkAll elems + uptoBulkAll spare + 1
  | .agg parts => uptoBulkAll parts + 1
  | .iface _ d => uptoBulk d + 1
  | .map entries => uptoBulkEntries entries + 1
  | .held _ => 1
def uptoBulkAll {H : Type} : List (DataW H) → Nat
  | [] => 0
  | d :: r => uptoBulk d + uptoBulkAll r
def uptoBulkEntries {H : Type} : List (Lit × DataW H) → Nat
  | [] => 0
  | x :: r => uptoBulkEntry x + uptoBulkEntries r
def uptoBulkEntry {H : Type} : Lit × DataW H → Nat
  | (.string bytes, d) => bytes.length + uptoBulk d + 1
  | (_, d) => uptoBulk d + 1
 end
def uptoSmall : (H : Type) → List (DataW H) → Bool := fun _ ds => decide (uptoBulkAll ds ≤ 1048576)
def OpenSpec.upto (s : _root_.Go.ChangeSpec) : _root_.Go.OpenSpec := { _root_.Go.OpenSpec.ofChange s with cond := some uptoSmall }

/-- 'capnplaw17.EqualIsEquivalence', WHERE WHAT IT READS IS OF BULK AT MOST 1048576: true; the input reads as it did. -/
def equalIsEquivalenceUptoRow : OpenClaim := { program := "ytelghkgnkncnoaadoor", sum := "c251be4a31a4cdb3c9e4eb8878b50855671c1d83f9d591468fb8a2d994982eee", func := "capnp/capnplaw17.EqualIsEquivalence", spec := "equalIsEquivalence", unfollowed := true, recurses := true, named := ["capnp/pointer.decoders", "capnp/listsize.bits"], apart := false, laid := [("capnp/pointer.decoders", laid_capnp_pointer_decoders), ("capnp/listsize.bits", laid_capnp_listsize_bits)], narrowed := true }
def EqualIsEquivalenceUptoSaid : Prop := equalIsEquivalenceUptoRow.holds Tryd.pinned (OpenSpec.upto equalIsEquivalenceSpec)

/-- 'capnplaw17.EqualMatchesCanonicalForms', WHERE WHAT IT READS IS OF BULK AT MOST 1048576: true; the input reads as it did. -/
def equalMatchesCanonicalFormsUptoRow : OpenClaim := { program := "ytelghkgnkncnoaadoor", sum := "c251be4a31a4cdb3c9e4eb8878b50855671c1d83f9d591468fb8a2d994982eee", func := "capnp/capnplaw17.EqualMatchesCanonicalForms", spec := "equalMatchesCanonicalForms", unfollowed := true, recurses := true, named := ["capnp/pointer.decoders", "capnp/listsize.bits"], apart := false, laid := [("capnp/pointer.decoders", laid_capnp_pointer_decoders), ("capnp/listsize.bits", laid_capnp_listsize_bits)], narrowed := true }
def EqualMatchesCanonicalFormsUptoSaid : Prop := equalMatchesCanonicalFormsUptoRow.holds Tryd.pinned (OpenSpec.upto equalMatchesCanonicalFormsSpec)

/-- 'capnplaw17.EqualData', WHERE WHAT IT READS IS OF BULK AT MOST 1048576: true; the input reads as it did. -/
def equalDataUptoRow : OpenClaim := { program := "ytelghkgnkncnoaadoor", sum := "c251be4a31a4cdb3c9e4eb8878b50855671c1d83f9d591468fb8a2d994982eee", func := "capnp/capnplaw17.EqualData", spec := "equalData", unfollowed := true, recurses := true, named := ["capnp/pointer.decoders", "capnp/listsize.bits"], apart := false, laid := [("capnp/pointer.decoders", laid_capnp_pointer_decoders), ("capnp/listsize.bits", laid_capnp_listsize_bits)], narrowed := true }
def EqualDataUptoSaid : Prop := equalDataUptoRow.holds Tryd.pinned (OpenSpec.upto equalDataSpec)

/-- 'capnplaw17.EqualKeeps', WHERE WHAT IT READS IS OF BULK AT MOST 1048576: true; the input reads as it did. -/
def equalKeepsUptoRow : OpenClaim := { program := "ytelghkgnkncnoaadoor", sum := "c251be4a31a4cdb3c9e4eb8878b50855671c1d83f9d591468fb8a2d994982eee", func := "capnp/capnplaw17.EqualKeeps", spec := "equalKeeps", unfollowed := true, recurses := true, named := ["capnp/pointer.decoders", "capnp/listsize.bits"], apart := false, laid := [("capnp/pointer.decoders", laid_capnp_pointer_decoders), ("capnp/listsize.bits", laid_capnp_listsize_bits)], narrowed := true }
def EqualKeepsUptoSaid : Prop := equalKeepsUptoRow.holds Tryd.pinned (OpenSpec.upto equalKeepsSpec)

/-- 'capnplaw28.SampleKeeps', WHERE WHAT IT READS IS OF BULK AT MOST 1048576: true; the input reads as it did. -/
def sampleKeepsUptoRow : OpenClaim := { program := "ytelghkgnkncnoaadoor", sum := "c251be4a31a4cdb3c9e4eb8878b50855671c1d83f9d591468fb8a2d994982eee", func := "capnp/capnplaw28.SampleKeeps", spec := "sampleKeeps", unfollowed := true, recurses := true, named := ["capnp/pointer.decoders", "capnp/listsize.bits"], loops := true, apart := false, laid := [("capnp/pointer.decoders", laid_capnp_pointer_decoders), ("capnp/listsize.bits", laid_capnp_listsize_bits)], narrowed := true }
def SampleKeepsUptoSaid : Prop := sampleKeepsUptoRow.holds Tryd.pinned (OpenSpec.upto sampleKeepsSpec)

/-- 'capnplaw15.CanonKeeps', WHERE WHAT IT READS IS OF BULK AT MOST 1048576: true; the input reads as it did. -/
def canonKeepsUptoRow : OpenClaim := { program := "ytelghkgnkncnoaadoor", sum := "c251be4a31a4cdb3c9e4eb8878b50855671c1d83f9d591468fb8a2d994982eee", func := "capnp/capnplaw15.CanonKeeps", spec := "canonKeeps", unfollowed := true, recurses := true, named := ["capnp/pointer.decoders", "capnp/listsize.bits"], apart := false, laid := [("capnp/pointer.decoders", laid_capnp_pointer_decoders), ("capnp/listsize.bits", laid_capnp_listsize_bits)], narrowed := true }
def CanonKeepsUptoSaid : Prop := canonKeepsUptoRow.holds Tryd.pinned (OpenSpec.upto canonKeepsSpec)

end Rows
end Go.Proofs.YtelghkgnkncnoaaDoor
