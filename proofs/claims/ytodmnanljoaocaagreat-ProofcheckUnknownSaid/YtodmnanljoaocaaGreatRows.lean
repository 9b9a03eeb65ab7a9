/-
  No cell of these rows narrows 'for every input' (looked for: loops, veiled, ifaces, maps, wideKeys, modest, calm, conditions, laid).
  DERIVED. THE GIVEN ROWS OF THIS SEAT. 6 by the template 'for every input the law returns true; each argument reads behind the call as it read before'; 0 by the template 'total and deterministic' (their statements: YtodmnanljoaocaaGreatTotals.lean).
  GIVEN WITH THE SEED: the statements are not yours to turn. If you find one false, say at which input.
  Laid BY PROGRAM, IN A SANDBOX (cutbox-rows.mjs): the forced cells as the released guide's own fill.sh prints them over the translation 9d3fd114604b4d4c… (all of the seat's roots in one cut). By AI agents, Wed Nov 11 2026. No macro, syntax, notation, axiom, sorry.
-/
import Derived.Test.YtodmnanljoaocaaGreatChecked
import GoSem.Claim
import GoSem.ClaimJoined
import GoSem.ClaimMapViews
import Derived.JoinedTies
import Derived.KernelRfl
namespace Go.Proofs.YtodmnanljoaocaaGreat
/- THE CELL 'sum', in the pinned program and in every row, IS THE sha256 OF THE DUMP (.gsa) THAT YtodmnanljoaocaaGreatProg.lean LOADS. Nothing in Lean hashes anything: it is a label: what it is worth is what the hold of that sum in a sandbox is worth. -/
noncomputable def Tryz.pinned : Pinned := { name := "ytodmnanljoaocaagreat", sum := "9d3fd114604b4d4c4172a4021a0d4e65e8572b3039eebf82e89d6012704bd33d", checked := Tryz.checked }
namespace Rows
def none {H : Type} : Left H := { results := [], args := [] }

/-- 'moidorelaw28.ProofcheckCheating': WHATEVER THE INPUT: true; the input reads as it did. -/
def proofcheckCheatingSpec : ChangeSpec := { name := "proofcheckCheating", fn := fun _ => fun
  | [d] => { results := [.lit (.bool true)], args := [d] }
  | _ => none }
def proofcheckCheatingRow : OpenClaim := { program := "ytodmnanljoaocaagreat", sum := "9d3fd114604b4d4c4172a4021a0d4e65e8572b3039eebf82e89d6012704bd33d", func := "moidore/moidorelaw28.ProofcheckCheating", spec := "proofcheckCheating", inPlace := ["math/bits.Add64"], unfollowed := true, recurses := true, named := ["math/bits.divideError", "math/bits.overflowError"], apart := false }
def ProofcheckCheatingSaid : Prop := proofcheckCheatingRow.holds Tryz.pinned (OpenSpec.ofChange proofcheckCheatingSpec)

/-- ITS FALSE NEIGHBOUR: 'it returns false'. Refute it at one input. -/
def proofcheckCheatingWrong : ChangeSpec := { name := "proofcheckCheating", fn := fun _ => fun
  | [d] => { results := [.lit (.bool false)], args := [d] }
  | _ => none }
def ProofcheckCheatingWrongFalsely : Prop := proofcheckCheatingRow.holds Tryz.pinned (OpenSpec.ofChange proofcheckCheatingWrong)

/-- 'moidorelaw28.ProofcheckUnknown': WHATEVER THE INPUT: true; the input reads as it did. -/
def proofcheckUnknownSpec : ChangeSpec := { name := "proofcheckUnknown", fn := fun _ => fun
  | [d1, d2, d3] => { results := [.lit (.bool true)], args := [d1, d2, d3] }
  | _ => none }
def proofcheckUnknownRow : OpenClaim := { program := "ytodmnanljoaocaagreat", sum := "9d3fd114604b4d4c4172a4021a0d4e65e8572b3039eebf82e89d6012704bd33d", func := "moidore/moidorelaw28.ProofcheckUnknown", spec := "proofcheckUnknown", inPlace := ["math/bits.Add64"], unfollowed := true, recurses := true, named := ["math/bits.divideError", "math/bits.overflowError"], apart := false }
def ProofcheckUnknownSaid : Prop := proofcheckUnknownRow.holds Tryz.pinned (OpenSpec.ofChange proofcheckUnknownSpec)

/-- ITS FALSE NEIGHBOUR: 'it returns false'. Refute it at one input. -/
def proofcheckUnknownWrong : ChangeSpec := { name := "proofcheckUnknown", fn := fun _ => fun
  | [d1, d2, d3] => { results := [.lit (.bool false)], args := [d1, d2, d3] }
  | _ => none }
def ProofcheckUnknownWrongFalsely : Prop := proofcheckUnknownRow.holds Tryz.pinned (OpenSpec.ofChange proofcheckUnknownWrong)

/-- 'moidorelaw28.ProofcheckVerify': WHATEVER THE INPUT: true; the input reads as it did. -/
def proofcheckVerifySpec : ChangeSpec := { name := "proofcheckVerify", fn := fun _ => fun
  | [d1, d2, d3] => { results := [.lit (.bool true)], args := [d1, d2, d3] }
  | _ => none }
def proofcheckVerifyRow : OpenClaim := { program := "ytodmnanljoaocaagreat", sum := "9d3fd114604b4d4c4172a4021a0d4e65e8572b3039eebf82e89d6012704bd33d", func := "moidore/moidorelaw28.ProofcheckVerify", spec := "proofcheckVerify", inPlace := ["math/bits.Add64"], unfollowed := true, recurses := true, named := ["math/bits.divideError", "math/bits.overflowError"], apart := false }
def ProofcheckVerifySaid : Prop := proofcheckVerifyRow.holds Tryz.pinned (OpenSpec.ofChange proofcheckVerifySpec)

/-- ITS FALSE NEIGHBOUR: 'it returns false'. Refute it at one input. -/
def proofcheckVerifyWrong : ChangeSpec := { name := "proofcheckVerify", fn := fun _ => fun
  | [d1, d2, d3] => { results := [.lit (.bool false)], args := [d1, d2, d3] }
  | _ => none }
def ProofcheckVerifyWrongFalsely : Prop := proofcheckVerifyRow.holds Tryz.pinned (OpenSpec.ofChange proofcheckVerifyWrong)

/-- 'moidorelaw28.ProofcheckBytes': WHATEVER THE INPUT: true; the input reads as it did. -/
def proofcheckBytesSpec : ChangeSpec := { name := "proofcheckBytes", fn := fun _ => fun
  | [d1, d2, d3] => { results := [.lit (.bool true)], args := [d1, d2, d3] }
  | _ => none }
def proofcheckBytesRow : OpenClaim := { program := "ytodmnanljoaocaagreat", sum := "9d3fd114604b4d4c4172a4021a0d4e65e8572b3039eebf82e89d6012704bd33d", func := "moidore/moidorelaw28.ProofcheckBytes", spec := "proofcheckBytes", inPlace := ["math/bits.Add64"], unfollowed := true, recurses := true, named := ["math/bits.divideError", "math/bits.overflowError"], apart := false }
def ProofcheckBytesSaid : Prop := proofcheckBytesRow.holds Tryz.pinned (OpenSpec.ofChange proofcheckBytesSpec)

/-- ITS FALSE NEIGHBOUR: 'it returns false'. Refute it at one input. -/
def proofcheckBytesWrong : ChangeSpec := { name := "proofcheckBytes", fn := fun _ => fun
  | [d1, d2, d3] => { results := [.lit (.bool false)], args := [d1, d2, d3] }
  | _ => none }
def ProofcheckBytesWrongFalsely : Prop := proofcheckBytesRow.holds Tryz.pinned (OpenSpec.ofChange proofcheckBytesWrong)

/-- 'moidorelaw28.ProofcheckChanged': WHATEVER THE INPUT: true; the input reads as it did. -/
def proofcheckChangedSpec : ChangeSpec := { name := "proofcheckChanged", fn := fun _ => fun
  | [d1, d2] => { results := [.lit (.bool true)], args := [d1, d2] }
  | _ => none }
def proofcheckChangedRow : OpenClaim := { program := "ytodmnanljoaocaagreat", sum := "9d3fd114604b4d4c4172a4021a0d4e65e8572b3039eebf82e89d6012704bd33d", func := "moidore/moidorelaw28.ProofcheckChanged", spec := "proofcheckChanged", inPlace := ["math/bits.Add64"], unfollowed := true, recurses := true, named := ["math/bits.divideError", "math/bits.overflowError"], apart := false }
def ProofcheckChangedSaid : Prop := proofcheckChangedRow.holds Tryz.pinned (OpenSpec.ofChange proofcheckChangedSpec)

/-- ITS FALSE NEIGHBOUR: 'it returns false'. Refute it at one input. -/
def proofcheckChangedWrong : ChangeSpec := { name := "proofcheckChanged", fn := fun _ => fun
  | [d1, d2] => { results := [.lit (.bool false)], args := [d1, d2] }
  | _ => none }
def ProofcheckChangedWrongFalsely : Prop := proofcheckChangedRow.holds Tryz.pinned (OpenSpec.ofChange proofcheckChangedWrong)

/-- 'moidorelaw28.ProofcheckComplete': WHATEVER THE INPUT: true; the input reads as it did. -/
def proofcheckCompleteSpec : ChangeSpec := { name := "proofcheckComplete", fn := fun _ => fun
  | [d] => { results := [.lit (.bool true)], args := [d] }
  | _ => none }
def proofcheckCompleteRow : OpenClaim := { program := "ytodmnanljoaocaagreat", sum := "9d3fd114604b4d4c4172a4021a0d4e65e8572b3039eebf82e89d6012704bd33d", func := "moidore/moidorelaw28.ProofcheckComplete", spec := "proofcheckComplete", inPlace := ["math/bits.Add64"], unfollowed := true, recurses := true, named := ["math/bits.divideError", "math/bits.overflowError"], apart := false }
def ProofcheckCompleteSaid : Prop := proofcheckCompleteRow.holds Tryz.pinned (OpenSpec.ofChange proofcheckCompleteSpec)

/-- ITS FALSE NEIGHBOUR: 'it returns false'. Refute it at one input. -/
def proofcheckCompleteWrong : ChangeSpec := { name := "proofcheckComplete", fn := fun _ => fun
  | [d] => { results := [.lit (.bool false)], args := [d] }
  | _ => none }
def ProofcheckCompleteWrongFalsely : Prop := proofcheckCompleteRow.holds Tryz.pinned (OpenSpec.ofChange proofcheckCompleteWrong)

/- THE SECOND FORM. 'bulk': how many values and letters a reading holds, each counted each time it is reached (what is shared counts as often as it is met; a slice's spare places count too). A statement '..UptoSaid' is the law's where the arguments, and the package variables that the reading takes, are together of bulk at most 1048576: NARROWER than '..Said'. Prove '..Said' where nothing that the law and all that it calls make is longer than what came in: it says more and counts as full. Else prove '..UptoSaid'. A law counts once. -/
mutual
def uptoBulk {H : Type} : DataW H → Nat
  | .lit (.string bytes) => bytes.length + 1
  | .lit _ => 1
  | .nil => 1
  | .ptr d => uptoBulk d + 1
  | .slice elems spare => uptoBulkAll elems + uptoBulkAll spare + 1
  | .agg parts => uptoBulkAll parts + 1
  | .iface _ d => uptoBulk d + 1
  | .map entries => uptoBulkEntries entries + 1
  | .held _ => 1
def uptoBulkAll {H : Type} : List (DataW H) → Nat
  | [] => 0
  | d :: r => uptoBulk d + uptoBulkAll r
def uptoBulkEntries {H : Type} : List (Lit × DataW H) → Nat
  | [] => 0
  | x :: r => uptoBulkEntry x + uptoBulkEntries r
def uptoBulkEntry {H : Type} : Lit × DataW H → Nat
  | (.string bytes, d) => bytes.length + uptoBulk d + 1
  | (_, d) => uptoBulk d + 1
 end
def uptoSmall : (H : Type) → List (DataW H) → Bool := fun _ ds => decide (uptoBulkAll ds ≤ 1048576)
def OpenSpec.upto (s : _root_.Go.ChangeSpec) : _root_.Go.OpenSpec := { _root_.Go.OpenSpec.ofChange s with cond := some uptoSmall }

/-- 'moidorelaw28.ProofcheckCheating', WHERE WHAT IT READS IS OF BULK AT MOST 1048576: true; the input reads as it did. -/
def proofcheckCheatingUptoRow : OpenClaim := { program := "ytodmnanljoaocaagreat", sum := "9d3fd114604b4d4c4172a4021a0d4e65e8572b3039eebf82e89d6012704bd33d", func := "moidore/moidorelaw28.ProofcheckCheating", spec := "proofcheckCheating", inPlace := ["math/bits.Add64"], unfollowed := true, recurses := true, named := ["math/bits.divideError", "math/bits.overflowError"], apart := false, narrowed := true }
def ProofcheckCheatingUptoSaid : Prop := proofcheckCheatingUptoRow.holds Tryz.pinned (OpenSpec.upto proofcheckCheatingSpec)

/-- 'moidorelaw28.ProofcheckUnknown', WHERE WHAT IT READS IS OF BULK AT MOST 1048576: true; the input reads as it did. -/
def proofcheckUnknownUptoRow : OpenClaim := { program := "ytodmnanljoaocaagreat", sum := "9d3fd114604b4d4c4172a4021a0d4e65e8572b3039eebf82e89d6012704bd33d", func := "moidore/moidorelaw28.ProofcheckUnknown", spec := "proofcheckUnknown", inPlace := ["math/bits.Add64"], unfollowed := true, recurses := true, named := ["math/bits.divideError", "math/bits.overflowError"], apart := false, narrowed := true }
def ProofcheckUnknownUptoSaid : Prop := proofcheckUnknownUptoRow.holds Tryz.pinned (OpenSpec.upto proofcheckUnknownSpec)

/-- 'moidorelaw28.ProofcheckVerify', WHERE WHAT IT READS IS OF BULK AT MOST 1048576: true; the input reads as it did. -/
def proofcheckVerifyUptoRow : OpenClaim := { program := "ytodmnanljoaocaagreat", sum := "9d3fd114604b4d4c4172a4021a0d4e65e8572b3039eebf82e89d6012704bd33d", func := "moidore/moidorelaw28.ProofcheckVerify", spec := "proofcheckVerify", inPlace := ["math/bits.Add64"], unfollowed := true, recurses := true, named := ["math/bits.divideError", "math/bits.overflowError"], apart := false, narrowed := true }
def ProofcheckVerifyUptoSaid : Prop := proofcheckVerifyUptoRow.holds Tryz.pinned (OpenSpec.upto proofcheckVerifySpec)

/-- 'moidorelaw28.ProofcheckBytes', WHERE WHAT IT READS IS OF BULK AT MOST 1048576: true; the input reads as it did. -/
def proofcheckBytesUptoRow : OpenClaim := { program := "ytodmnanljoaocaagreat", sum := "9d3fd114604b4d4c4172a4021a0d4e65e8572b3039eebf82e89d6012704bd33d", func := "moidore/moidorelaw28.ProofcheckBytes", spec := "proofcheckBytes", inPlace := ["math/bits.Add64"], unfollowed := true, recurses := true, named := ["math/bits.divideError", "math/bits.overflowError"], apart := false, narrowed := true }
def ProofcheckBytesUptoSaid : Prop := proofcheckBytesUptoRow.holds Tryz.pinned (OpenSpec.upto proofcheckBytesSpec)

/-- 'moidorelaw28.ProofcheckChanged', WHERE WHAT IT READS IS OF BULK AT MOST 1048576: true; the input reads as it did. -/
def proofcheckChangedUptoRow : OpenClaim := { program := "ytodmnanljoaocaagreat", sum := "9d3fd114604b4d4c4172a4021a0d4e65e8572b3039eebf82e89d6012704bd33d", func := "moidore/moidorelaw28.ProofcheckChanged", spec := "proofcheckChanged", inPlace := ["math/bits.Add64"], unfollowed := true, recurses := true, named := ["math/bits.divideError", "math/bits.overflowError"], apart := false, narrowed := true }
def ProofcheckChangedUptoSaid : Prop := proofcheckChangedUptoRow.holds Tryz.pinned (OpenSpec.upto proofcheckChangedSpec)

/-- 'moidorelaw28.ProofcheckComplete', WHERE WHAT IT READS IS OF BULK AT MOST 1048576: true; the input reads as it did. -/
def proofcheckCompleteUptoRow : OpenClaim := { program := "ytodmnanljoaocaagreat", sum := "9d3fd114604b4d4c4172a4021a0d4e65e8572b3039eebf82e89d6012704bd33d", func := "moidore/moidorelaw28.ProofcheckComplete", spec := "proofcheckComplete", inPlace := ["math/bits.Add64"], unfollowed := true, recurses := true, named := ["math/bits.divideError", "math/bits.overflowError"], apart := false, narrowed := true }
def ProofcheckCompleteUptoSaid : Prop := proofcheckCompleteUptoRow.holds Tryz.pinned (OpenSpec.upto proofcheckCompleteSpec)

end Rows
end Go.Proofs.YtodmnanljoaocaaGreat
