/-
  No cell of these rows narrows 'for every input' (looked for: loops, veiled, ifaces, maps, wideKeys, modest, calm, conditions, laid).
  DERIVED. THE GIVEN ROWS OF THIS SEAT. 3 by the template 'for every input the law returns true; each argument reads behind the call as it read before'; 0 by the template 'total and deterministic' (their statements: YtjipleoamlmkfaaGreatTotals.lean).
  GIVEN WITH THE SEED: the statements are not yours to turn. If you find one false, say at which input.
  Laid BY PROGRAM, IN A SANDBOX (cutbox-rows.mjs): the forced cells as the released guide's own fill.sh prints them over the translation e2c6294846665e1a… (all of the seat's roots in one cut). By AI agents, Wed Nov 11 2026. No macro, syntax, notation, axiom, sorry.
-/
import Derived.Test.YtjipleoamlmkfaaGreatChecked
import GoSem.Claim
import GoSem.ClaimJoined
import GoSem.ClaimMapViews
import Derived.JoinedTies
import Derived.KernelRfl
namespace Go.Proofs.YtjipleoamlmkfaaGreat
/- THE CELL 'sum', in the pinned program and in every row, IS THE sha256 OF THE DUMP (.gsa) THAT YtjipleoamlmkfaaGreatProg.lean LOADS. Nothing in Lean hashes anything: it is a label: what it is worth is what the hold of that sum in a sandbox is worth. -/
noncomputable def Tryz.pinned : Pinned := { name := "ytjipleoamlmkfaagreat", sum := "e2c6294846665e1aeee3a2e7843803e6bab1a30db096e79add7e54efe95d4b79", checked := Tryz.checked }
namespace Rows
def none {H : Type} : Left H := { results := [], args := [] }

/-- 'moidorelaw27.ProverProve': WHATEVER THE INPUT: true; the input reads as it did. -/
def proverProveSpec : ChangeSpec := { name := "proverProve", fn := fun _ => fun
  | [d] => { results := [.lit (.bool true)], args := [d] }
  | _ => none }
def proverProveRow : OpenClaim := { program := "ytjipleoamlmkfaagreat", sum := "e2c6294846665e1aeee3a2e7843803e6bab1a30db096e79add7e54efe95d4b79", func := "moidore/moidorelaw27.ProverProve", spec := "proverProve", inPlace := ["math/bits.Add64"], unfollowed := true, recurses := true, named := ["math/bits.divideError", "math/bits.overflowError"], apart := false }
def ProverProveSaid : Prop := proverProveRow.holds Tryz.pinned (OpenSpec.ofChange proverProveSpec)

/-- ITS FALSE NEIGHBOUR: 'it returns false'. Refute it at one input. -/
def proverProveWrong : ChangeSpec := { name := "proverProve", fn := fun _ => fun
  | [d] => { results := [.lit (.bool false)], args := [d] }
  | _ => none }
def ProverProveWrongFalsely : Prop := proverProveRow.holds Tryz.pinned (OpenSpec.ofChange proverProveWrong)

/-- 'moidorelaw27.ProverAgain': WHATEVER THE INPUT: true; the input reads as it did. -/
def proverAgainSpec : ChangeSpec := { name := "proverAgain", fn := fun _ => fun
  | [d] => { results := [.lit (.bool true)], args := [d] }
  | _ => none }
def proverAgainRow : OpenClaim := { program := "ytjipleoamlmkfaagreat", sum := "e2c6294846665e1aeee3a2e7843803e6bab1a30db096e79add7e54efe95d4b79", func := "moidore/moidorelaw27.ProverAgain", spec := "proverAgain", inPlace := ["math/bits.Add64"], unfollowed := true, recurses := true, named := ["math/bits.divideError", "math/bits.overflowError"], apart := false }
def ProverAgainSaid : Prop := proverAgainRow.holds Tryz.pinned (OpenSpec.ofChange proverAgainSpec)

/-- ITS FALSE NEIGHBOUR: 'it returns false'. Refute it at one input. -/
def proverAgainWrong : ChangeSpec := { name := "proverAgain", fn := fun _ => fun
  | [d] => { results := [.lit (.bool false)], args := [d] }
  | _ => none }
def ProverAgainWrongFalsely : Prop := proverAgainRow.holds Tryz.pinned (OpenSpec.ofChange proverAgainWrong)

/-- 'moidorelaw27.ProverFits': WHATEVER THE INPUT: true; the input reads as it did. -/
def proverFitsSpec : ChangeSpec := { name := "proverFits", fn := fun _ => fun
  | [d] => { results := [.lit (.bool true)], args := [d] }
  | _ => none }
def proverFitsRow : OpenClaim := { program := "ytjipleoamlmkfaagreat", sum := "e2c6294846665e1aeee3a2e7843803e6bab1a30db096e79add7e54efe95d4b79", func := "moidore/moidorelaw27.ProverFits", spec := "proverFits", inPlace := ["math/bits.Add64"], unfollowed := true, recurses := true, named := ["math/bits.divideError", "math/bits.overflowError"], apart := false }
def ProverFitsSaid : Prop := proverFitsRow.holds Tryz.pinned (OpenSpec.ofChange proverFitsSpec)

/-- ITS FALSE NEIGHBOUR: 'it returns false'. Refute it at one input. -/
def proverFitsWrong : ChangeSpec := { name := "proverFits", fn := fun _ => fun
  | [d] => { results := [.lit (.bool false)], args := [d] }
  | _ => none }
def ProverFitsWrongFalsely : Prop := proverFitsRow.holds Tryz.pinned (OpenSpec.ofChange proverFitsWrong)

/- THE SECOND FORM. 'bulk': how many values and letters a reading holds, each counted each time it is reached (what is shared counts as often as it is met; a slice's spare places count too). A statement '..UptoSaid' is the law's where the arguments, and the package variables that the reading takes, are together of bulk at most 1048576: NARROWER than '..Said'. Prove '..Said' where nothing that the law and all that it calls make is longer than what came in: it says more and counts as full. Else prove '..UptoSaid'. A law counts once. -/
mutual
def uptoBulk {H : Type} : DataW H → Nat
  | .lit (.string bytes) => bytes.length + 1
  | .lit _ => 1
  | .nil => 1
  | .ptr d => uptoBulk d + 1
  | .slice elems spare => uptoBulkAll elems + uptoBulkAll spare + 1
  | .agg parts => uptoBulkAll parts + 1
  | .iface _ d => uptoBulk d + 1
  | .map entries => uptoBulkEntries entries + 1
  | .held _ => 1
def uptoBulkAll {H : Type} : List (DataW H) → Nat
  | [] => 0
  | d :: r => uptoBulk d + uptoBulkAll r
def uptoBulkEntries {H : Type} : List (Lit × DataW H) → Nat
  | [] => 0
  | x :: r => uptoBulkEntry x + uptoBulkEntries r
def uptoBulkEntry {H : Type} : Lit × DataW H → Nat
  | (.string bytes, d) => bytes.length + uptoBulk d + 1
  | (_, d) => uptoBulk d + 1
 end
def uptoSmall : (H : Type) → List (DataW H) → Bool := fun _ ds => decide (uptoBulkAll ds ≤ 1048576)
def OpenSpec.upto (s : _root_.Go.ChangeSpec) : _root_.Go.OpenSpec := { _root_.Go.OpenSpec.ofChange s with cond := some uptoSmall }

/-- 'moidorelaw27.ProverProve', WHERE WHAT IT READS IS OF BULK AT MOST 1048576: true; the input reads as it did. -/
def proverProveUptoRow : OpenClaim := { program := "ytjipleoamlmkfaagreat", sum := "e2c6294846665e1aeee3a2e7843803e6bab1a30db096e79add7e54efe95d4b79", func := "moidore/moidorelaw27.ProverProve", spec := "proverProve", inPlace := ["math/bits.Add64"], unfollowed := true, recurses := true, named := ["math/bits.divideError", "math/bits.overflowError"], apart := false, narrowed := true }
def ProverProveUptoSaid : Prop := proverProveUptoRow.holds Tryz.pinned (OpenSpec.upto proverProveSpec)

/-- 'moidorelaw27.ProverAgain', WHERE WHAT IT READS IS OF BULK AT MOST 1048576: true; the input reads as it did. -/
def proverAgainUptoRow : OpenClaim := { program := "ytjipleoamlmkfaagreat", sum := "e2c6294846665e1aeee3a2e7843803e6bab1a30db096e79add7e54efe95d4b79", func := "moidore/moidorelaw27.ProverAgain", spec := "proverAgain", inPlace := ["math/bits.Add64"], unfollowed := true, recurses := true, named := ["math/bits.divideError", "math/bits.overflowError"], apart := false, narrowed := true }
def ProverAgainUptoSaid : Prop := proverAgainUptoRow.holds Tryz.pinned (OpenSpec.upto proverAgainSpec)

/-- 'moidorelaw27.ProverFits', WHERE WHAT IT READS IS OF BULK AT MOST 1048576: true; the input reads as it did. -/
def proverFitsUptoRow : OpenClaim := { program := "ytjipleoamlmkfaagreat", sum := "e2c6294846665e1aeee3a2e7843803e6bab1a30db096e79add7e54efe95d4b79", func := "moidore/moidorelaw27.ProverFits", spec := "proverFits", inPlace := ["math/bits.Add64"], unfollowed := true, recurses := true, named := ["math/bits.divideError", "math/bits.overflowError"], apart := false, narrowed := true }
def ProverFitsUptoSaid : Prop := proverFitsUptoRow.holds Tryz.pinned (OpenSpec.upto proverFitsSpec)

end Rows
end Go.Proofs.YtjipleoamlmkfaaGreat
