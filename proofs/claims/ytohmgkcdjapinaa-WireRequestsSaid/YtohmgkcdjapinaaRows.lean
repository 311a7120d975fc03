/-
  No cell of these rows narrows 'for every input' (looked for: loops, veiled, ifaces, maps, wideKeys, modest, calm, conditions, laid).
  DERIVED. THE GIVEN ROWS OF THIS SEAT. 6 by the template 'for every input the law returns true; each argument reads behind the call as it read before'; 0 by the template 'total and deterministic' (their statements: YtohmgkcdjapinaaTotals.lean).
  GIVEN WITH THE SEED: the statements are not yours to turn. If you find one false, say at which input.
  Laid BY PROGRAM, IN A SANDBOX (cutbox-rows.mjs): the forced cells as the released guide's own fill.sh prints them over the translation 099b327407bf78ad… (all of the seat's roots in one cut). By AI agents, Wed Nov 11 2026. No macro, syntax, notation, axiom, sorry.
-/
import Derived.Test.YtohmgkcdjapinaaChecked
import GoSem.Claim
import GoSem.ClaimJoined
import GoSem.ClaimMapViews
import Derived.JoinedTies
import Derived.KernelRfl
namespace Go.Proofs.Ytohmgkcdjapinaa
/- THE CELL 'sum', in the pinned program and in every row, IS THE sha256 OF THE DUMP (.gsa) THAT YtohmgkcdjapinaaProg.lean LOADS. Nothing in Lean hashes anything: it is a label: what it is worth is what the hold of that sum in a sandbox is worth. -/
noncomputable def Try.pinned : Pinned := { name := "ytohmgkcdjapinaa", sum := "099b327407bf78ad488bbb96cf13ea6ef5e4e21f32d01fa57a5b37d7f6552cc2", checked := Try.checked }
namespace Rows
def none {H : Type} : Left H := { results := [], args := [] }

/-- 'sluicelaw2.WireEncodes': WHATEVER THE INPUT: true; the input reads as it did. -/
def wireEncodesSpec : ChangeSpec := { name := "wireEncodes", fn := fun _ => fun
  | [d] => { results := [.lit (.bool true)], args := [d] }
  | _ => none }
def wireEncodesRow : OpenClaim := { program := "ytohmgkcdjapinaa", sum := "099b327407bf78ad488bbb96cf13ea6ef5e4e21f32d01fa57a5b37d7f6552cc2", func := "sluice/sluicelaw2.WireEncodes", spec := "wireEncodes", unfollowed := true, recurses := true, apart := false }
def WireEncodesSaid : Prop := wireEncodesRow.holds Try.pinned (OpenSpec.ofChange wireEncodesSpec)

/-- ITS FALSE NEIGHBOUR: 'it returns false'. Refute it at one input. -/
def wireEncodesWrong : ChangeSpec := { name := "wireEncodes", fn := fun _ => fun
  | [d] => { results := [.lit (.bool false)], args := [d] }
  | _ => none }
def WireEncodesWrongFalsely : Prop := wireEncodesRow.holds Try.pinned (OpenSpec.ofChange wireEncodesWrong)

/-- 'sluicelaw2.WireDecodes': WHATEVER THE INPUT: true; the input reads as it did. -/
def wireDecodesSpec : ChangeSpec := { name := "wireDecodes", fn := fun _ => fun
  | [d] => { results := [.lit (.bool true)], args := [d] }
  | _ => none }
def wireDecodesRow : OpenClaim := { program := "ytohmgkcdjapinaa", sum := "099b327407bf78ad488bbb96cf13ea6ef5e4e21f32d01fa57a5b37d7f6552cc2", func := "sluice/sluicelaw2.WireDecodes", spec := "wireDecodes", unfollowed := true, recurses := true, apart := false }
def WireDecodesSaid : Prop := wireDecodesRow.holds Try.pinned (OpenSpec.ofChange wireDecodesSpec)

/-- ITS FALSE NEIGHBOUR: 'it returns false'. Refute it at one input. -/
def wireDecodesWrong : ChangeSpec := { name := "wireDecodes", fn := fun _ => fun
  | [d] => { results := [.lit (.bool false)], args := [d] }
  | _ => none }
def WireDecodesWrongFalsely : Prop := wireDecodesRow.holds Try.pinned (OpenSpec.ofChange wireDecodesWrong)

/-- 'sluicelaw2.WireSegments': WHATEVER THE INPUT: true; the input reads as it did. -/
def wireSegmentsSpec : ChangeSpec := { name := "wireSegments", fn := fun _ => fun
  | [d1, d2] => { results := [.lit (.bool true)], args := [d1, d2] }
  | _ => none }
def wireSegmentsRow : OpenClaim := { program := "ytohmgkcdjapinaa", sum := "099b327407bf78ad488bbb96cf13ea6ef5e4e21f32d01fa57a5b37d7f6552cc2", func := "sluice/sluicelaw2.WireSegments", spec := "wireSegments", unfollowed := true, recurses := true, apart := false }
def WireSegmentsSaid : Prop := wireSegmentsRow.holds Try.pinned (OpenSpec.ofChange wireSegmentsSpec)

/-- ITS FALSE NEIGHBOUR: 'it returns false'. Refute it at one input. -/
def wireSegmentsWrong : ChangeSpec := { name := "wireSegments", fn := fun _ => fun
  | [d1, d2] => { results := [.lit (.bool false)], args := [d1, d2] }
  | _ => none }
def WireSegmentsWrongFalsely : Prop := wireSegmentsRow.holds Try.pinned (OpenSpec.ofChange wireSegmentsWrong)

/-- 'sluicelaw2.WireRequests': WHATEVER THE INPUT: true; the input reads as it did. -/
def wireRequestsSpec : ChangeSpec := { name := "wireRequests", fn := fun _ => fun
  | [d1, d2, d3, d4] => { results := [.lit (.bool true)], args := [d1, d2, d3, d4] }
  | _ => none }
def wireRequestsRow : OpenClaim := { program := "ytohmgkcdjapinaa", sum := "099b327407bf78ad488bbb96cf13ea6ef5e4e21f32d01fa57a5b37d7f6552cc2", func := "sluice/sluicelaw2.WireRequests", spec := "wireRequests", unfollowed := true, recurses := true, apart := false }
def WireRequestsSaid : Prop := wireRequestsRow.holds Try.pinned (OpenSpec.ofChange wireRequestsSpec)

/-- ITS FALSE NEIGHBOUR: 'it returns false'. Refute it at one input. -/
def wireRequestsWrong : ChangeSpec := { name := "wireRequests", fn := fun _ => fun
  | [d1, d2, d3, d4] => { results := [.lit (.bool false)], args := [d1, d2, d3, d4] }
  | _ => none }
def WireRequestsWrongFalsely : Prop := wireRequestsRow.holds Try.pinned (OpenSpec.ofChange wireRequestsWrong)

/-- 'sluicelaw2.WireKept': WHATEVER THE INPUT: true; the input reads as it did. -/
def wireKeptSpec : ChangeSpec := { name := "wireKept", fn := fun _ => fun
  | [d] => { results := [.lit (.bool true)], args := [d] }
  | _ => none }
def wireKeptRow : OpenClaim := { program := "ytohmgkcdjapinaa", sum := "099b327407bf78ad488bbb96cf13ea6ef5e4e21f32d01fa57a5b37d7f6552cc2", func := "sluice/sluicelaw2.WireKept", spec := "wireKept", unfollowed := true, recurses := true, apart := false }
def WireKeptSaid : Prop := wireKeptRow.holds Try.pinned (OpenSpec.ofChange wireKeptSpec)

/-- ITS FALSE NEIGHBOUR: 'it returns false'. Refute it at one input. -/
def wireKeptWrong : ChangeSpec := { name := "wireKept", fn := fun _ => fun
  | [d] => { results := [.lit (.bool false)], args := [d] }
  | _ => none }
def WireKeptWrongFalsely : Prop := wireKeptRow.holds Try.pinned (OpenSpec.ofChange wireKeptWrong)

/-- 'sluicelaw2.WireAll': WHATEVER THE INPUT: true; the input reads as it did. -/
def wireAllSpec : ChangeSpec := { name := "wireAll", fn := fun _ => fun
  | [d] => { results := [.lit (.bool true)], args := [d] }
  | _ => none }
def wireAllRow : OpenClaim := { program := "ytohmgkcdjapinaa", sum := "099b327407bf78ad488bbb96cf13ea6ef5e4e21f32d01fa57a5b37d7f6552cc2", func := "sluice/sluicelaw2.WireAll", spec := "wireAll", unfollowed := true, recurses := true, apart := false }
def WireAllSaid : Prop := wireAllRow.holds Try.pinned (OpenSpec.ofChange wireAllSpec)

/-- ITS FALSE NEIGHBOUR: 'it returns false'. Refute it at one input. -/
def wireAllWrong : ChangeSpec := { name := "wireAll", fn := fun _ => fun
  | [d] => { results := [.lit (.bool false)], args := [d] }
  | _ => none }
def WireAllWrongFalsely : Prop := wireAllRow.holds Try.pinned (OpenSpec.ofChange wireAllWrong)

/- THE SECOND FORM. 'bulk': how many values and letters a reading holds, each counted each time it is reached (what is shared counts as often as it is met; a slice's spare places count too). A statement '..UptoSaid' is the law's where the arguments, and the package variables that the reading takes, are together of bulk at most 1048576: NARROWER than '..Said'. Prove '..Said' where nothing that the law and all that it calls make is longer than what came in: it says more and counts as full. Else prove '..UptoSaid'. A law counts once. -/
mutual
def uptoBulk {H : Type} : DataW H → Nat
  | .lit (.string bytes) => bytes.length + 1
  | .lit _ => 1
  | .nil => 1
  | .ptr d => uptoBulk d + 1
  | .slice elems spare => uptoBulkAll elems + uptoBulkAll spare + 1
  | .agg parts => uptoBulkAll parts + 1
  | .iface _ d => uptoBulk d + 1
  | .map entries => uptoBulkEntries entries + 1
  | .held _ => 1
def uptoBulkAll {H : Type} : List (DataW H) → Nat
  | [] => 0
  | d :: r => uptoBulk d + uptoBulkAll r
def uptoBulkEntries {H : Type} : List (Lit × DataW H) → Nat
  | [] => 0
  | x :: r => uptoBulkEntry x + uptoBulkEntries r
def uptoBulkEntry {H : Type} : Lit × DataW H → Nat
  | (.string bytes, d) => bytes.length + uptoBulk d + 1
  | (_, d) => uptoBulk d + 1
 end
def uptoSmall : (H : Type) → List (DataW H) → Bool := fun _ ds => decide (uptoBulkAll ds ≤ 1048576)
def OpenSpec.upto (s : _root_.Go.ChangeSpec) : _root_.Go.OpenSpec := { _root_.Go.OpenSpec.ofChange s with cond := some uptoSmall }

/-- 'sluicelaw2.WireEncodes', WHERE WHAT IT READS IS OF BULK AT MOST 1048576: true; the input reads as it did. -/
def wireEncodesUptoRow : OpenClaim := { program := "ytohmgkcdjapinaa", sum := "099b327407bf78ad488bbb96cf13ea6ef5e4e21f32d01fa57a5b37d7f6552cc2", func := "sluice/sluicelaw2.WireEncodes", spec := "wireEncodes", unfollowed := true, recurses := true, apart := false, narrowed := true }
def WireEncodesUptoSaid : Prop := wireEncodesUptoRow.holds Try.pinned (OpenSpec.upto wireEncodesSpec)

/-- 'sluicelaw2.WireDecodes', WHERE WHAT IT READS IS OF BULK AT MOST 1048576: true; the input reads as it did. -/
def wireDecodesUptoRow : OpenClaim := { program := "ytohmgkcdjapinaa", sum := "099b327407bf78ad488bbb96cf13ea6ef5e4e21f32d01fa57a5b37d7f6552cc2", func := "sluice/sluicelaw2.WireDecodes", spec := "wireDecodes", unfollowed := true, recurses := true, apart := false, narrowed := true }
def WireDecodesUptoSaid : Prop := wireDecodesUptoRow.holds Try.pinned (OpenSpec.upto wireDecodesSpec)

/-- 'sluicelaw2.WireSegments', WHERE WHAT IT READS IS OF BULK AT MOST 1048576: true; the input reads as it did. -/
def wireSegmentsUptoRow : OpenClaim := { program := "ytohmgkcdjapinaa", sum := "099b327407bf78ad488bbb96cf13ea6ef5e4e21f32d01fa57a5b37d7f6552cc2", func := "sluice/sluicelaw2.WireSegments", spec := "wireSegments", unfollowed := true, recurses := true, apart := false, narrowed := true }
def WireSegmentsUptoSaid : Prop := wireSegmentsUptoRow.holds Try.pinned (OpenSpec.upto wireSegmentsSpec)

/-- 'sluicelaw2.WireRequests', WHERE WHAT IT READS IS OF BULK AT MOST 1048576: true; the input reads as it did. -/
def wireRequestsUptoRow : OpenClaim := { program := "ytohmgkcdjapinaa", sum := "099b327407bf78ad488bbb96cf13ea6ef5e4e21f32d01fa57a5b37d7f6552cc2", func := "sluice/sluicelaw2.WireRequests", spec := "wireRequests", unfollowed := true, recurses := true, apart := false, narrowed := true }
def WireRequestsUptoSaid : Prop := wireRequestsUptoRow.holds Try.pinned (OpenSpec.upto wireRequestsSpec)

/-- 'sluicelaw2.WireKept', WHERE WHAT IT READS IS OF BULK AT MOST 1048576: true; the input reads as it did. -/
def wireKeptUptoRow : OpenClaim := { program := "ytohmgkcdjapinaa", sum := "099b327407bf78ad488bbb96cf13ea6ef5e4e21f32d01fa57a5b37d7f6552cc2", func := "sluice/sluicelaw2.WireKept", spec := "wireKept", unfollowed := true, recurses := true, apart := false, narrowed := true }
def WireKeptUptoSaid : Prop := wireKeptUptoRow.holds Try.pinned (OpenSpec.upto wireKeptSpec)

/-- 'sluicelaw2.WireAll', WHERE WHAT IT READS IS OF BULK AT MOST 1048576: true; the input reads as it did. -/
def wireAllUptoRow : OpenClaim := { program := "ytohmgkcdjapinaa", sum := "099b327407bf78ad488bbb96cf13ea6ef5e4e21f32d01fa57a5b37d7f6552cc2", func := "sluice/sluicelaw2.WireAll", spec := "wireAll", unfollowed := true, recurses := true, apart := false, narrowed := true }
def WireAllUptoSaid : Prop := wireAllUptoRow.holds Try.pinned (OpenSpec.upto wireAllSpec)

end Rows
end Go.Proofs.Ytohmgkcdjapinaa
