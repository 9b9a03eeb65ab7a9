/-
  No cell of these rows narrows 'for every input' (looked for: loops, veiled, ifaces, maps, wideKeys, modest, calm, conditions, laid).
  DERIVED. THE GIVEN ROWS OF THIS SEAT. 7 by the template 'for every input the law returns true; each argument reads behind the call as it read before'; 0 by the template 'total and deterministic' (their statements: YtohddeebmofoeaaTotals.lean).
  GIVEN WITH THE SEED: the statements are not yours to turn. If you find one false, say at which input.
  Laid BY PROGRAM, IN A SANDBOX (cutbox-rows.mjs): the forced cells as the released guide's own fill.sh prints them over the translation ef02d55e96d535e9… (all of the seat's roots in one cut). By AI agents, Wed Nov 11 2026. No macro, syntax, notation, axiom, sorry.
-/
import Derived.Test.YtohddeebmofoeaaChecked
import GoSem.Claim
import GoSem.ClaimJoined
import GoSem.ClaimMapViews
import Derived.JoinedTies
import Derived.KernelRfl
namespace Go.Proofs.Ytohddeebmofoeaa
/- THE CELL 'sum', in the pinned program and in every row, IS THE sha256 OF THE DUMP (.gsa) THAT YtohddeebmofoeaaProg.lean LOADS. Nothing in Lean hashes anything: it is a label: what it is worth is what the hold of that sum in a sandbox is worth. -/
noncomputable def Try.pinned : Pinned := { name := "ytohddeebmofoeaa", sum := "ef02d55e96d535e9ba7c903a153681a39dbe9b7e44d9466bf81e6426d0f1333a", checked := Try.checked }
namespace Rows
def none {H : Type} : Left H := { results := [], args := [] }

/-- 'moidorelaw11.WireNumbers': WHATEVER THE INPUT: true; the input reads as it did. -/
def wireNumbersSpec : ChangeSpec := { name := "wireNumbers", fn := fun _ => fun
  | [d1, d2, d3] => { results := [.lit (.bool true)], args := [d1, d2, d3] }
  | _ => none }
def wireNumbersRow : OpenClaim := { program := "ytohddeebmofoeaa", sum := "ef02d55e96d535e9ba7c903a153681a39dbe9b7e44d9466bf81e6426d0f1333a", func := "moidore/moidorelaw11.WireNumbers", spec := "wireNumbers", apart := false }
def WireNumbersSaid : Prop := wireNumbersRow.holds Try.pinned (OpenSpec.ofChange wireNumbersSpec)

/-- ITS FALSE NEIGHBOUR: 'it returns false'. Refute it at one input. -/
def wireNumbersWrong : ChangeSpec := { name := "wireNumbers", fn := fun _ => fun
  | [d1, d2, d3] => { results := [.lit (.bool false)], args := [d1, d2, d3] }
  | _ => none }
def WireNumbersWrongFalsely : Prop := wireNumbersRow.holds Try.pinned (OpenSpec.ofChange wireNumbersWrong)

/-- 'moidorelaw11.WireLists': WHATEVER THE INPUT: true; the input reads as it did. -/
def wireListsSpec : ChangeSpec := { name := "wireLists", fn := fun _ => fun
  | [d1, d2, d3] => { results := [.lit (.bool true)], args := [d1, d2, d3] }
  | _ => none }
def wireListsRow : OpenClaim := { program := "ytohddeebmofoeaa", sum := "ef02d55e96d535e9ba7c903a153681a39dbe9b7e44d9466bf81e6426d0f1333a", func := "moidore/moidorelaw11.WireLists", spec := "wireLists", apart := false }
def WireListsSaid : Prop := wireListsRow.holds Try.pinned (OpenSpec.ofChange wireListsSpec)

/-- ITS FALSE NEIGHBOUR: 'it returns false'. Refute it at one input. -/
def wireListsWrong : ChangeSpec := { name := "wireLists", fn := fun _ => fun
  | [d1, d2, d3] => { results := [.lit (.bool false)], args := [d1, d2, d3] }
  | _ => none }
def WireListsWrongFalsely : Prop := wireListsRow.holds Try.pinned (OpenSpec.ofChange wireListsWrong)

/-- 'moidorelaw11.WireIsolated': WHATEVER THE INPUT: true; the input reads as it did. -/
def wireIsolatedSpec : ChangeSpec := { name := "wireIsolated", fn := fun _ => fun
  | [d1, d2] => { results := [.lit (.bool true)], args := [d1, d2] }
  | _ => none }
def wireIsolatedRow : OpenClaim := { program := "ytohddeebmofoeaa", sum := "ef02d55e96d535e9ba7c903a153681a39dbe9b7e44d9466bf81e6426d0f1333a", func := "moidore/moidorelaw11.WireIsolated", spec := "wireIsolated", apart := false }
def WireIsolatedSaid : Prop := wireIsolatedRow.holds Try.pinned (OpenSpec.ofChange wireIsolatedSpec)

/-- ITS FALSE NEIGHBOUR: 'it returns false'. Refute it at one input. -/
def wireIsolatedWrong : ChangeSpec := { name := "wireIsolated", fn := fun _ => fun
  | [d1, d2] => { results := [.lit (.bool false)], args := [d1, d2] }
  | _ => none }
def WireIsolatedWrongFalsely : Prop := wireIsolatedRow.holds Try.pinned (OpenSpec.ofChange wireIsolatedWrong)

/-- 'moidorelaw11.WireReader': WHATEVER THE INPUT: true; the input reads as it did. -/
def wireReaderSpec : ChangeSpec := { name := "wireReader", fn := fun _ => fun
  | [d1, d2] => { results := [.lit (.bool true)], args := [d1, d2] }
  | _ => none }
def wireReaderRow : OpenClaim := { program := "ytohddeebmofoeaa", sum := "ef02d55e96d535e9ba7c903a153681a39dbe9b7e44d9466bf81e6426d0f1333a", func := "moidore/moidorelaw11.WireReader", spec := "wireReader", apart := false }
def WireReaderSaid : Prop := wireReaderRow.holds Try.pinned (OpenSpec.ofChange wireReaderSpec)

/-- ITS FALSE NEIGHBOUR: 'it returns false'. Refute it at one input. -/
def wireReaderWrong : ChangeSpec := { name := "wireReader", fn := fun _ => fun
  | [d1, d2] => { results := [.lit (.bool false)], args := [d1, d2] }
  | _ => none }
def WireReaderWrongFalsely : Prop := wireReaderRow.holds Try.pinned (OpenSpec.ofChange wireReaderWrong)

/-- 'moidorelaw11.WireFails': WHATEVER THE INPUT: true; the input reads as it did. -/
def wireFailsSpec : ChangeSpec := { name := "wireFails", fn := fun _ => fun
  | [d1, d2] => { results := [.lit (.bool true)], args := [d1, d2] }
  | _ => none }
def wireFailsRow : OpenClaim := { program := "ytohddeebmofoeaa", sum := "ef02d55e96d535e9ba7c903a153681a39dbe9b7e44d9466bf81e6426d0f1333a", func := "moidore/moidorelaw11.WireFails", spec := "wireFails", apart := false }
def WireFailsSaid : Prop := wireFailsRow.holds Try.pinned (OpenSpec.ofChange wireFailsSpec)

/-- ITS FALSE NEIGHBOUR: 'it returns false'. Refute it at one input. -/
def wireFailsWrong : ChangeSpec := { name := "wireFails", fn := fun _ => fun
  | [d1, d2] => { results := [.lit (.bool false)], args := [d1, d2] }
  | _ => none }
def WireFailsWrongFalsely : Prop := wireFailsRow.holds Try.pinned (OpenSpec.ofChange wireFailsWrong)

/-- 'moidorelaw11.WireExact': WHATEVER THE INPUT: true; the input reads as it did. -/
def wireExactSpec : ChangeSpec := { name := "wireExact", fn := fun _ => fun
  | [d1, d2] => { results := [.lit (.bool true)], args := [d1, d2] }
  | _ => none }
def wireExactRow : OpenClaim := { program := "ytohddeebmofoeaa", sum := "ef02d55e96d535e9ba7c903a153681a39dbe9b7e44d9466bf81e6426d0f1333a", func := "moidore/moidorelaw11.WireExact", spec := "wireExact", apart := false }
def WireExactSaid : Prop := wireExactRow.holds Try.pinned (OpenSpec.ofChange wireExactSpec)

/-- ITS FALSE NEIGHBOUR: 'it returns false'. Refute it at one input. -/
def wireExactWrong : ChangeSpec := { name := "wireExact", fn := fun _ => fun
  | [d1, d2] => { results := [.lit (.bool false)], args := [d1, d2] }
  | _ => none }
def WireExactWrongFalsely : Prop := wireExactRow.holds Try.pinned (OpenSpec.ofChange wireExactWrong)

/-- 'moidorelaw11.WireRoundTrip': WHATEVER THE INPUT: true; the input reads as it did. -/
def wireRoundTripSpec : ChangeSpec := { name := "wireRoundTrip", fn := fun _ => fun
  | [d] => { results := [.lit (.bool true)], args := [d] }
  | _ => none }
def wireRoundTripRow : OpenClaim := { program := "ytohddeebmofoeaa", sum := "ef02d55e96d535e9ba7c903a153681a39dbe9b7e44d9466bf81e6426d0f1333a", func := "moidore/moidorelaw11.WireRoundTrip", spec := "wireRoundTrip", apart := false }
def WireRoundTripSaid : Prop := wireRoundTripRow.holds Try.pinned (OpenSpec.ofChange wireRoundTripSpec)

/-- ITS FALSE NEIGHBOUR: 'it returns false'. Refute it at one input. -/
def wireRoundTripWrong : ChangeSpec := { name := "wireRoundTrip", fn := fun _ => fun
  | [d] => { results := [.lit (.bool false)], args := [d] }
  | _ => none }
def WireRoundTripWrongFalsely : Prop := wireRoundTripRow.holds Try.pinned (OpenSpec.ofChange wireRoundTripWrong)

/- THE SECOND FORM. 'bulk': how many values and letters a reading holds, each counted each time it is reached (what is shared counts as often as it is met; a slice's spare places count too). A statement '..UptoSaid' is the law's where the arguments, and the package variables that the reading takes, are together of bulk at most 1048576: NARROWER than '..Said'. Prove '..Said' where nothing that the law and all that it calls make is longer than what came in: it says more and counts as full. Else prove '..UptoSaid'. A law counts once. -/
mutual
def uptoBulk {H : Type} : DataW H → Nat
  | .lit (.string bytes) => bytes.length + 1
  | .lit _ => 1
  | .nil => 1
  | .ptr d => uptoBulk d + 1
  | .slice elems spare => uptoBulkAll elems + uptoBulkAll spare + 1
  | .agg parts => uptoBulkAll parts + 1
  | .iface _ d => uptoBulk d + 1
  | .map entries => uptoBulkEntries entries + 1
  | .held _ => 1
def uptoBulkAll {H : Type} : List (DataW H) → Nat
  | [] => 0
  | d :: r => uptoBulk d + uptoBulkAll r
def uptoBulkEntries {H : Type} : List (Lit × DataW H) → Nat
  | [] => 0
  | x :: r => uptoBulkEntry x + uptoBulkEntries r
def uptoBulkEntry {H : Type} : Lit × DataW H → Nat
  | (.string bytes, d) => bytes.length + uptoBulk d + 1
  | (_, d) => uptoBulk d + 1
 end
def uptoSmall : (H : Type) → List (DataW H) → Bool := fun _ ds => decide (uptoBulkAll ds ≤ 1048576)
def OpenSpec.upto (s : _root_.Go.ChangeSpec) : _root_.Go.OpenSpec := { _root_.Go.OpenSpec.ofChange s with cond := some uptoSmall }

/-- 'moidorelaw11.WireNumbers', WHERE WHAT IT READS IS OF BULK AT MOST 1048576: true; the input reads as it did. -/
def wireNumbersUptoRow : OpenClaim := { program := "ytohddeebmofoeaa", sum := "ef02d55e96d535e9ba7c903a153681a39dbe9b7e44d9466bf81e6426d0f1333a", func := "moidore/moidorelaw11.WireNumbers", spec := "wireNumbers", apart := false, narrowed := true }
def WireNumbersUptoSaid : Prop := wireNumbersUptoRow.holds Try.pinned (OpenSpec.upto wireNumbersSpec)

/-- 'moidorelaw11.WireLists', WHERE WHAT IT READS IS OF BULK AT MOST 1048576: true; the input reads as it did. -/
def wireListsUptoRow : OpenClaim := { program := "ytohddeebmofoeaa", sum := "ef02d55e96d535e9ba7c903a153681a39dbe9b7e44d9466bf81e6426d0f1333a", func := "moidore/moidorelaw11.WireLists", spec := "wireLists", apart := false, narrowed := true }
def WireListsUptoSaid : Prop := wireListsUptoRow.holds Try.pinned (OpenSpec.upto wireListsSpec)

/-- 'moidorelaw11.WireIsolated', WHERE WHAT IT READS IS OF BULK AT MOST 1048576: true; the input reads as it did. -/
def wireIsolatedUptoRow : OpenClaim := { program := "ytohddeebmofoeaa", sum := "ef02d55e96d535e9ba7c903a153681a39dbe9b7e44d9466bf81e6426d0f1333a", func := "moidore/moidorelaw11.WireIsolated", spec := "wireIsolated", apart := false, narrowed := true }
def WireIsolatedUptoSaid : Prop := wireIsolatedUptoRow.holds Try.pinned (OpenSpec.upto wireIsolatedSpec)

/-- 'moidorelaw11.WireReader', WHERE WHAT IT READS IS OF BULK AT MOST 1048576: true; the input reads as it did. -/
def wireReaderUptoRow : OpenClaim := { program := "ytohddeebmofoeaa", sum := "ef02d55e96d535e9ba7c903a153681a39dbe9b7e44d9466bf81e6426d0f1333a", func := "moidore/moidorelaw11.WireReader", spec := "wireReader", apart := false, narrowed := true }
def WireReaderUptoSaid : Prop := wireReaderUptoRow.holds Try.pinned (OpenSpec.upto wireReaderSpec)

/-- 'moidorelaw11.WireFails', WHERE WHAT IT READS IS OF BULK AT MOST 1048576: true; the input reads as it did. -/
def wireFailsUptoRow : OpenClaim := { program := "ytohddeebmofoeaa", sum := "ef02d55e96d535e9ba7c903a153681a39dbe9b7e44d9466bf81e6426d0f1333a", func := "moidore/moidorelaw11.WireFails", spec := "wireFails", apart := false, narrowed := true }
def WireFailsUptoSaid : Prop := wireFailsUptoRow.holds Try.pinned (OpenSpec.upto wireFailsSpec)

/-- 'moidorelaw11.WireExact', WHERE WHAT IT READS IS OF BULK AT MOST 1048576: true; the input reads as it did. -/
def wireExactUptoRow : OpenClaim := { program := "ytohddeebmofoeaa", sum := "ef02d55e96d535e9ba7c903a153681a39dbe9b7e44d9466bf81e6426d0f1333a", func := "moidore/moidorelaw11.WireExact", spec := "wireExact", apart := false, narrowed := true }
def WireExactUptoSaid : Prop := wireExactUptoRow.holds Try.pinned (OpenSpec.upto wireExactSpec)

/-- 'moidorelaw11.WireRoundTrip', WHERE WHAT IT READS IS OF BULK AT MOST 1048576: true; the input reads as it did. -/
def wireRoundTripUptoRow : OpenClaim := { program := "ytohddeebmofoeaa", sum := "ef02d55e96d535e9ba7c903a153681a39dbe9b7e44d9466bf81e6426d0f1333a", func := "moidore/moidorelaw11.WireRoundTrip", spec := "wireRoundTrip", apart := false, narrowed := true }
def WireRoundTripUptoSaid : Prop := wireRoundTripUptoRow.holds Try.pinned (OpenSpec.upto wireRoundTripSpec)

end Rows
end Go.Proofs.Ytohddeebmofoeaa
