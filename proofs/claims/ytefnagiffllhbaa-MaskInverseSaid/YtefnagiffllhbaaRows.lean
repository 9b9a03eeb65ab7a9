/-
  No cell of these rows narrows 'for every input' (looked for: loops, veiled, ifaces, maps, wideKeys, modest, calm, conditions, laid).
  DERIVED. THE GIVEN ROWS OF THIS SEAT. 3 by the template 'for every input the law returns true; each argument reads behind the call as it read before'; 0 by the template 'total and deterministic' (their statements: YtefnagiffllhbaaTotals.lean).
  GIVEN WITH THE SEED: the statements are not yours to turn. If you find one false, say at which input.
  Laid BY PROGRAM, IN A SANDBOX (cutbox-rows.mjs): the forced cells as the released guide's own fill.sh prints them over the translation b68d5d8faa8a78ff… (all of the seat's roots in one cut). By AI agents, Wed Nov 11 2026. No macro, syntax, notation, axiom, sorry.
-/
import Derived.Test.YtefnagiffllhbaaChecked
import GoSem.Claim
import GoSem.ClaimJoined
import GoSem.ClaimMapViews
import Derived.JoinedTies
import Derived.KernelRfl
namespace Go.Proofs.Ytefnagiffllhbaa
/- THE CELL 'sum', in the pinned program and in every row, IS THE sha256 OF THE DUMP (.gsa) THAT YtefnagiffllhbaaProg.lean LOADS. Nothing in Lean hashes anything: it is a label: what it is worth is what the hold of that sum in a sandbox is worth. -/
noncomputable def Try.pinned : Pinned := { name := "ytefnagiffllhbaa", sum := "b68d5d8faa8a78ffd7f25260c6a8eeb52df737431c17d74ba806bc06f5acc20a", checked := Try.checked }
namespace Rows
def none {H : Type} : Left H := { results := [], args := [] }

/-- 'moidorelaw25.MaskFromSeed': WHATEVER THE INPUT: true; the input reads as it did. -/
def maskFromSeedSpec : ChangeSpec := { name := "maskFromSeed", fn := fun _ => fun
  | [d1, d2] => { results := [.lit (.bool true)], args := [d1, d2] }
  | _ => none }
def maskFromSeedRow : OpenClaim := { program := "ytefnagiffllhbaa", sum := "b68d5d8faa8a78ffd7f25260c6a8eeb52df737431c17d74ba806bc06f5acc20a", func := "moidore/moidorelaw25.MaskFromSeed", spec := "maskFromSeed", inPlace := ["math/bits.Add64"], unfollowed := true, recurses := true, named := ["math/bits.divideError", "math/bits.overflowError"], apart := false }
def MaskFromSeedSaid : Prop := maskFromSeedRow.holds Try.pinned (OpenSpec.ofChange maskFromSeedSpec)

/-- ITS FALSE NEIGHBOUR: 'it returns false'. Refute it at one input. -/
def maskFromSeedWrong : ChangeSpec := { name := "maskFromSeed", fn := fun _ => fun
  | [d1, d2] => { results := [.lit (.bool false)], args := [d1, d2] }
  | _ => none }
def MaskFromSeedWrongFalsely : Prop := maskFromSeedRow.holds Try.pinned (OpenSpec.ofChange maskFromSeedWrong)

/-- 'moidorelaw25.MaskValid': WHATEVER THE INPUT: true; the input reads as it did. -/
def maskValidSpec : ChangeSpec := { name := "maskValid", fn := fun _ => fun
  | [d1, d2] => { results := [.lit (.bool true)], args := [d1, d2] }
  | _ => none }
def maskValidRow : OpenClaim := { program := "ytefnagiffllhbaa", sum := "b68d5d8faa8a78ffd7f25260c6a8eeb52df737431c17d74ba806bc06f5acc20a", func := "moidore/moidorelaw25.MaskValid", spec := "maskValid", inPlace := ["math/bits.Add64"], unfollowed := true, recurses := true, named := ["math/bits.divideError", "math/bits.overflowError"], apart := false }
def MaskValidSaid : Prop := maskValidRow.holds Try.pinned (OpenSpec.ofChange maskValidSpec)

/-- ITS FALSE NEIGHBOUR: 'it returns false'. Refute it at one input. -/
def maskValidWrong : ChangeSpec := { name := "maskValid", fn := fun _ => fun
  | [d1, d2] => { results := [.lit (.bool false)], args := [d1, d2] }
  | _ => none }
def MaskValidWrongFalsely : Prop := maskValidRow.holds Try.pinned (OpenSpec.ofChange maskValidWrong)

/-- 'moidorelaw25.MaskInverse': WHATEVER THE INPUT: true; the input reads as it did. -/
def maskInverseSpec : ChangeSpec := { name := "maskInverse", fn := fun _ => fun
  | [d1, d2, d3] => { results := [.lit (.bool true)], args := [d1, d2, d3] }
  | _ => none }
def maskInverseRow : OpenClaim := { program := "ytefnagiffllhbaa", sum := "b68d5d8faa8a78ffd7f25260c6a8eeb52df737431c17d74ba806bc06f5acc20a", func := "moidore/moidorelaw25.MaskInverse", spec := "maskInverse", inPlace := ["math/bits.Add64"], unfollowed := true, recurses := true, named := ["math/bits.divideError", "math/bits.overflowError"], apart := false }
def MaskInverseSaid : Prop := maskInverseRow.holds Try.pinned (OpenSpec.ofChange maskInverseSpec)

/-- ITS FALSE NEIGHBOUR: 'it returns false'. Refute it at one input. -/
def maskInverseWrong : ChangeSpec := { name := "maskInverse", fn := fun _ => fun
  | [d1, d2, d3] => { results := [.lit (.bool false)], args := [d1, d2, d3] }
  | _ => none }
def MaskInverseWrongFalsely : Prop := maskInverseRow.holds Try.pinned (OpenSpec.ofChange maskInverseWrong)

/- THE SECOND FORM. 'bulk': how many values and letters a reading holds, each counted each time it is reached (what is shared counts as often as it is met; a slice's spare places count too). A statement '..UptoSaid' is the law's where the arguments, and the package variables that the reading takes, are together of bulk at most 1048576: NARROWER than '..Said'. Prove '..Said' where nothing that the law and all that it calls make is longer than what came in: it says more and counts as full. Else prove '..UptoSaid'. A law counts once. -/
mutual
def uptoBulk {H : Type} : DataW H → Nat
  | .lit (.string bytes) => bytes.length + 1
  | .lit _ => 1
  | .nil => 1
  | .ptr d => uptoBulk d + 1
  | .slice elems spare => uptoBulkAll elems + uptoBulkAll spare + 1
  | .agg parts => uptoBulkAll parts + 1
  | .iface _ d => uptoBulk d + 1
  | .map entries => uptoBulkEntries entries + 1
  | .held _ => 1
def uptoBulkAll {H : Type} : List (DataW H) → Nat
  | [] => 0
  | d :: r => uptoBulk d + uptoBulkAll r
def uptoBulkEntries {H : Type} : List (Lit × DataW H) → Nat
  | [] => 0
  | x :: r => uptoBulkEntry x + uptoBulkEntries r
def uptoBulkEntry {H : Type} : Lit × DataW H → Nat
  | (.string bytes, d) => bytes.length + uptoBulk d + 1
  | (_, d) => uptoBulk d + 1
 end
def uptoSmall : (H : Type) → List (DataW H) → Bool := fun _ ds => decide (uptoBulkAll ds ≤ 1048576)
def OpenSpec.upto (s : _root_.Go.ChangeSpec) : _root_.Go.OpenSpec := { _root_.Go.OpenSpec.ofChange s with cond := some uptoSmall }

/-- 'moidorelaw25.MaskFromSeed', WHERE WHAT IT READS IS OF BULK AT MOST 1048576: true; the input reads as it did. -/
def maskFromSeedUptoRow : OpenClaim := { program := "ytefnagiffllhbaa", sum := "b68d5d8faa8a78ffd7f25260c6a8eeb52df737431c17d74ba806bc06f5acc20a", func := "moidore/moidorelaw25.MaskFromSeed", spec := "maskFromSeed", inPlace := ["math/bits.Add64"], unfollowed := true, recurses := true, named := ["math/bits.divideError", "math/bits.overflowError"], apart := false, narrowed := true }
def MaskFromSeedUptoSaid : Prop := maskFromSeedUptoRow.holds Try.pinned (OpenSpec.upto maskFromSeedSpec)

/-- 'moidorelaw25.MaskValid', WHERE WHAT IT READS IS OF BULK AT MOST 1048576: true; the input reads as it did. -/
def maskValidUptoRow : OpenClaim := { program := "ytefnagiffllhbaa", sum := "b68d5d8faa8a78ffd7f25260c6a8eeb52df737431c17d74ba806bc06f5acc20a", func := "moidore/moidorelaw25.MaskValid", spec := "maskValid", inPlace := ["math/bits.Add64"], unfollowed := true, recurses := true, named := ["math/bits.divideError", "math/bits.overflowError"], apart := false, narrowed := true }
def MaskValidUptoSaid : Prop := maskValidUptoRow.holds Try.pinned (OpenSpec.upto maskValidSpec)

/-- 'moidorelaw25.MaskInverse', WHERE WHAT IT READS IS OF BULK AT MOST 1048576: true; the input reads as it did. -/
def maskInverseUptoRow : OpenClaim := { program := "ytefnagiffllhbaa", sum := "b68d5d8faa8a78ffd7f25260c6a8eeb52df737431c17d74ba806bc06f5acc20a", func := "moidore/moidorelaw25.MaskInverse", spec := "maskInverse", inPlace := ["math/bits.Add64"], unfollowed := true, recurses := true, named := ["math/bits.divideError", "math/bits.overflowError"], apart := false, narrowed := true }
def MaskInverseUptoSaid : Prop := maskInverseUptoRow.holds Try.pinned (OpenSpec.upto maskInverseSpec)

end Rows
end Go.Proofs.Ytefnagiffllhbaa
