/-
  No cell of these rows narrows 'for every input' (looked for: loops, veiled, ifaces, maps, wideKeys, modest, calm, conditions, laid).
  DERIVED. THE GIVEN ROWS OF THIS SEAT. 4 by the template 'for every input the law returns true; each argument reads behind the call as it read before'; 0 by the template 'total and deterministic' (their statements: YtefnagiffllhbaaGreatTotals.lean).
  GIVEN WITH THE SEED: the statements are not yours to turn. If you find one false, say at which input.
  Laid BY PROGRAM, IN A SANDBOX (cutbox-rows.mjs): the forced cells as the released guide's own fill.sh prints them over the translation 19b67cd222d4565e… (all of the seat's roots in one cut). By AI agents, Wed Nov 11 2026. No macro, syntax, notation, axiom, sorry.
-/
import Derived.Test.YtefnagiffllhbaaGreatChecked
import GoSem.Claim
import GoSem.ClaimJoined
import GoSem.ClaimMapViews
import Derived.JoinedTies
import Derived.KernelRfl
namespace Go.Proofs.YtefnagiffllhbaaGreat
/- THE CELL 'sum', in the pinned program and in every row, IS THE sha256 OF THE DUMP (.gsa) THAT YtefnagiffllhbaaGreatProg.lean LOADS. Nothing in Lean hashes anything: it is a label: what it is worth is what the hold of that sum in a sandbox is worth. -/
noncomputable def Tryz.pinned : Pinned := { name := "ytefnagiffllhbaagreat", sum := "19b67cd222d4565e8a4bdfa38c455bcf90596f427f2d5e4eb0970e2b304e602c", checked := Tryz.checked }
namespace Rows
def none {H : Type} : Left H := { results := [], args := [] }

/-- 'moidorelaw25.MaskRow': WHATEVER THE INPUT: true; the input reads as it did. -/
def maskRowSpec : ChangeSpec := { name := "maskRow", fn := fun _ => fun
  | [d1, d2, d3] => { results := [.lit (.bool true)], args := [d1, d2, d3] }
  | _ => none }
def maskRowRow : OpenClaim := { program := "ytefnagiffllhbaagreat", sum := "19b67cd222d4565e8a4bdfa38c455bcf90596f427f2d5e4eb0970e2b304e602c", func := "moidore/moidorelaw25.MaskRow", spec := "maskRow", inPlace := ["math/bits.Add64"], unfollowed := true, recurses := true, named := ["math/bits.divideError", "math/bits.overflowError"], apart := false }
def MaskRowSaid : Prop := maskRowRow.holds Tryz.pinned (OpenSpec.ofChange maskRowSpec)

/-- ITS FALSE NEIGHBOUR: 'it returns false'. Refute it at one input. -/
def maskRowWrong : ChangeSpec := { name := "maskRow", fn := fun _ => fun
  | [d1, d2, d3] => { results := [.lit (.bool false)], args := [d1, d2, d3] }
  | _ => none }
def MaskRowWrongFalsely : Prop := maskRowRow.holds Tryz.pinned (OpenSpec.ofChange maskRowWrong)

/-- 'moidorelaw25.MaskPolynomials': WHATEVER THE INPUT: true; the input reads as it did. -/
def maskPolynomialsSpec : ChangeSpec := { name := "maskPolynomials", fn := fun _ => fun
  | [d1, d2] => { results := [.lit (.bool true)], args := [d1, d2] }
  | _ => none }
def maskPolynomialsRow : OpenClaim := { program := "ytefnagiffllhbaagreat", sum := "19b67cd222d4565e8a4bdfa38c455bcf90596f427f2d5e4eb0970e2b304e602c", func := "moidore/moidorelaw25.MaskPolynomials", spec := "maskPolynomials", inPlace := ["math/bits.Add64"], unfollowed := true, recurses := true, named := ["math/bits.divideError", "math/bits.overflowError"], apart := false }
def MaskPolynomialsSaid : Prop := maskPolynomialsRow.holds Tryz.pinned (OpenSpec.ofChange maskPolynomialsSpec)

/-- ITS FALSE NEIGHBOUR: 'it returns false'. Refute it at one input. -/
def maskPolynomialsWrong : ChangeSpec := { name := "maskPolynomials", fn := fun _ => fun
  | [d1, d2] => { results := [.lit (.bool false)], args := [d1, d2] }
  | _ => none }
def MaskPolynomialsWrongFalsely : Prop := maskPolynomialsRow.holds Tryz.pinned (OpenSpec.ofChange maskPolynomialsWrong)

/-- 'moidorelaw25.MaskColumns': WHATEVER THE INPUT: true; the input reads as it did. -/
def maskColumnsSpec : ChangeSpec := { name := "maskColumns", fn := fun _ => fun
  | [d1, d2] => { results := [.lit (.bool true)], args := [d1, d2] }
  | _ => none }
def maskColumnsRow : OpenClaim := { program := "ytefnagiffllhbaagreat", sum := "19b67cd222d4565e8a4bdfa38c455bcf90596f427f2d5e4eb0970e2b304e602c", func := "moidore/moidorelaw25.MaskColumns", spec := "maskColumns", inPlace := ["math/bits.Add64"], unfollowed := true, recurses := true, named := ["math/bits.divideError", "math/bits.overflowError"], apart := false }
def MaskColumnsSaid : Prop := maskColumnsRow.holds Tryz.pinned (OpenSpec.ofChange maskColumnsSpec)

/-- ITS FALSE NEIGHBOUR: 'it returns false'. Refute it at one input. -/
def maskColumnsWrong : ChangeSpec := { name := "maskColumns", fn := fun _ => fun
  | [d1, d2] => { results := [.lit (.bool false)], args := [d1, d2] }
  | _ => none }
def MaskColumnsWrongFalsely : Prop := maskColumnsRow.holds Tryz.pinned (OpenSpec.ofChange maskColumnsWrong)

/-- 'moidorelaw25.MaskMasks': WHATEVER THE INPUT: true; the input reads as it did. -/
def maskMasksSpec : ChangeSpec := { name := "maskMasks", fn := fun _ => fun
  | [d1, d2] => { results := [.lit (.bool true)], args := [d1, d2] }
  | _ => none }
def maskMasksRow : OpenClaim := { program := "ytefnagiffllhbaagreat", sum := "19b67cd222d4565e8a4bdfa38c455bcf90596f427f2d5e4eb0970e2b304e602c", func := "moidore/moidorelaw25.MaskMasks", spec := "maskMasks", inPlace := ["math/bits.Add64"], unfollowed := true, recurses := true, named := ["math/bits.divideError", "math/bits.overflowError"], apart := false }
def MaskMasksSaid : Prop := maskMasksRow.holds Tryz.pinned (OpenSpec.ofChange maskMasksSpec)

/-- ITS FALSE NEIGHBOUR: 'it returns false'. Refute it at one input. -/
def maskMasksWrong : ChangeSpec := { name := "maskMasks", fn := fun _ => fun
  | [d1, d2] => { results := [.lit (.bool false)], args := [d1, d2] }
  | _ => none }
def MaskMasksWrongFalsely : Prop := maskMasksRow.holds Tryz.pinned (OpenSpec.ofChange maskMasksWrong)

/- THE SECOND FORM. 'bulk': how many values and letters a reading holds, each counted each time it is reached (what is shared counts as often as it is met; a slice's spare places count too). A statement '..UptoSaid' is the law's where the arguments, and the package variables that the reading takes, are together of bulk at most 1048576: NARROWER than '..Said'. Prove '..Said' where nothing that the law and all that it calls make is longer than what came in: it says more and counts as full. Else prove '..UptoSaid'. A law counts once. -/
mutual
def uptoBulk {H : Type} : DataW H → Nat
  | .lit (.string bytes) => bytes.length + 1
  | .lit _ => 1
  | .nil => 1
  | .ptr d => uptoBulk d + 1
  | .slice elems spare => uptoBulkAll elems + uptoBulkAll spare + 1
  | .agg parts => uptoBulkAll parts + 1
  | .iface _ d => uptoBulk d + 1
  | .map entries => uptoBulkEntries entries + 1
  | .held _ => 1
def uptoBulkAll {H : Type} : List (DataW H) → Nat
  | [] => 0
  | d :: r => uptoBulk d + uptoBulkAll r
def uptoBulkEntries {H : Type} : List (Lit × DataW H) → Nat
  | [] => 0
  | x :: r => uptoBulkEntry x + uptoBulkEntries r
def uptoBulkEntry {H : Type} : Lit × DataW H → Nat
  | (.string bytes, d) => bytes.length + uptoBulk d + 1
  | (_, d) => uptoBulk d + 1
 end
def uptoSmall : (H : Type) → List (DataW H) → Bool := fun _ ds => decide (uptoBulkAll ds ≤ 1048576)
def OpenSpec.upto (s : _root_.Go.ChangeSpec) : _root_.Go.OpenSpec := { _root_.Go.OpenSpec.ofChange s with cond := some uptoSmall }

/-- 'moidorelaw25.MaskRow', WHERE WHAT IT READS IS OF BULK AT MOST 1048576: true; the input reads as it did. -/
def maskRowUptoRow : OpenClaim := { program := "ytefnagiffllhbaagreat", sum := "19b67cd222d4565e8a4bdfa38c455bcf90596f427f2d5e4eb0970e2b304e602c", func := "moidore/moidorelaw25.MaskRow", spec := "maskRow", inPlace := ["math/bits.Add64"], unfollowed := true, recurses := true, named := ["math/bits.divideError", "math/bits.overflowError"], apart := false, narrowed := true }
def MaskRowUptoSaid : Prop := maskRowUptoRow.holds Tryz.pinned (OpenSpec.upto maskRowSpec)

/-- 'moidorelaw25.MaskPolynomials', WHERE WHAT IT READS IS OF BULK AT MOST 1048576: true; the input reads as it did. -/
def maskPolynomialsUptoRow : OpenClaim := { program := "ytefnagiffllhbaagreat", sum := "19b67cd222d4565e8a4bdfa38c455bcf90596f427f2d5e4eb0970e2b304e602c", func := "moidore/moidorelaw25.MaskPolynomials", spec := "maskPolynomials", inPlace := ["math/bits.Add64"], unfollowed := true, recurses := true, named := ["math/bits.divideError", "math/bits.overflowError"], apart := false, narrowed := true }
def MaskPolynomialsUptoSaid : Prop := maskPolynomialsUptoRow.holds Tryz.pinned (OpenSpec.upto maskPolynomialsSpec)

/-- 'moidorelaw25.MaskColumns', WHERE WHAT IT READS IS OF BULK AT MOST 1048576: true; the input reads as it did. -/
def maskColumnsUptoRow : OpenClaim := { program := "ytefnagiffllhbaagreat", sum := "19b67cd222d4565e8a4bdfa38c455bcf90596f427f2d5e4eb0970e2b304e602c", func := "moidore/moidorelaw25.MaskColumns", spec := "maskColumns", inPlace := ["math/bits.Add64"], unfollowed := true, recurses := true, named := ["math/bits.divideError", "math/bits.overflowError"], apart := false, narrowed := true }
def MaskColumnsUptoSaid : Prop := maskColumnsUptoRow.holds Tryz.pinned (OpenSpec.upto maskColumnsSpec)

/-- 'moidorelaw25.MaskMasks', WHERE WHAT IT READS IS OF BULK AT MOST 1048576: true; the input reads as it did. -/
def maskMasksUptoRow : OpenClaim := { program := "ytefnagiffllhbaagreat", sum := "19b67cd222d4565e8a4bdfa38c455bcf90596f427f2d5e4eb0970e2b304e602c", func := "moidore/moidorelaw25.MaskMasks", spec := "maskMasks", inPlace := ["math/bits.Add64"], unfollowed := true, recurses := true, named := ["math/bits.divideError", "math/bits.overflowError"], apart := false, narrowed := true }
def MaskMasksUptoSaid : Prop := maskMasksUptoRow.holds Tryz.pinned (OpenSpec.upto maskMasksSpec)

end Rows
end Go.Proofs.YtefnagiffllhbaaGreat
