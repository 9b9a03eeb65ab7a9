/-
  No cell of these rows narrows 'for every input' (looked for: loops, veiled, ifaces, maps, wideKeys, modest, calm, conditions, laid).
  DERIVED. THE GIVEN ROWS OF THIS SEAT. 7 by the template 'for every input the law returns true; each argument reads behind the call as it read before'; 0 by the template 'total and deterministic' (their statements: YtakjnmojigechaaGreatTotals.lean).
  GIVEN WITH THE SEED: the statements are not yours to turn. If you find one false, say at which input.
  Laid BY PROGRAM, IN A SANDBOX (cutbox-rows.mjs): the forced cells as the released guide's own fill.sh prints them over the translation 6a8834813d5dd538… (all of the seat's roots in one cut). By AI agents, Wed Nov 11 2026. No macro, syntax, notation, axiom, sorry.
-/
import Derived.Test.YtakjnmojigechaaGreatChecked
import GoSem.Claim
import GoSem.ClaimJoined
import GoSem.ClaimMapViews
import Derived.JoinedTies
import Derived.KernelRfl
namespace Go.Proofs.YtakjnmojigechaaGreat
/- THE CELL 'sum', in the pinned program and in every row, IS THE sha256 OF THE DUMP (.gsa) THAT YtakjnmojigechaaGreatProg.lean LOADS. Nothing in Lean hashes anything: it is a label: what it is worth is what the hold of that sum in a sandbox is worth. -/
noncomputable def Tryz.pinned : Pinned := { name := "ytakjnmojigechaagreat", sum := "6a8834813d5dd538e4186a9194dce9b5edd705daa431f5ccb63254bae6c45697", checked := Tryz.checked }
namespace Rows
def none {H : Type} : Left H := { results := [], args := [] }

/-- 'moidorelaw26.ResponseAnswer': WHATEVER THE INPUT: true; the input reads as it did. -/
def responseAnswerSpec : ChangeSpec := { name := "responseAnswer", fn := fun _ => fun
  | [d] => { results := [.lit (.bool true)], args := [d] }
  | _ => none }
def responseAnswerRow : OpenClaim := { program := "ytakjnmojigechaagreat", sum := "6a8834813d5dd538e4186a9194dce9b5edd705daa431f5ccb63254bae6c45697", func := "moidore/moidorelaw26.ResponseAnswer", spec := "responseAnswer", inPlace := ["math/bits.Add64"], unfollowed := true, recurses := true, named := ["math/bits.divideError", "math/bits.overflowError"], apart := false }
def ResponseAnswerSaid : Prop := responseAnswerRow.holds Tryz.pinned (OpenSpec.ofChange responseAnswerSpec)

/-- ITS FALSE NEIGHBOUR: 'it returns false'. Refute it at one input. -/
def responseAnswerWrong : ChangeSpec := { name := "responseAnswer", fn := fun _ => fun
  | [d] => { results := [.lit (.bool false)], args := [d] }
  | _ => none }
def ResponseAnswerWrongFalsely : Prop := responseAnswerRow.holds Tryz.pinned (OpenSpec.ofChange responseAnswerWrong)

/-- 'moidorelaw26.ResponseComplete': WHATEVER THE INPUT: true; the input reads as it did. -/
def responseCompleteSpec : ChangeSpec := { name := "responseComplete", fn := fun _ => fun
  | [d1, d2, d3] => { results := [.lit (.bool true)], args := [d1, d2, d3] }
  | _ => none }
def responseCompleteRow : OpenClaim := { program := "ytakjnmojigechaagreat", sum := "6a8834813d5dd538e4186a9194dce9b5edd705daa431f5ccb63254bae6c45697", func := "moidore/moidorelaw26.ResponseComplete", spec := "responseComplete", inPlace := ["math/bits.Add64"], unfollowed := true, recurses := true, named := ["math/bits.divideError", "math/bits.overflowError"], apart := false }
def ResponseCompleteSaid : Prop := responseCompleteRow.holds Tryz.pinned (OpenSpec.ofChange responseCompleteSpec)

/-- ITS FALSE NEIGHBOUR: 'it returns false'. Refute it at one input. -/
def responseCompleteWrong : ChangeSpec := { name := "responseComplete", fn := fun _ => fun
  | [d1, d2, d3] => { results := [.lit (.bool false)], args := [d1, d2, d3] }
  | _ => none }
def ResponseCompleteWrongFalsely : Prop := responseCompleteRow.holds Tryz.pinned (OpenSpec.ofChange responseCompleteWrong)

/-- 'moidorelaw26.ResponseColumns': WHATEVER THE INPUT: true; the input reads as it did. -/
def responseColumnsSpec : ChangeSpec := { name := "responseColumns", fn := fun _ => fun
  | [d] => { results := [.lit (.bool true)], args := [d] }
  | _ => none }
def responseColumnsRow : OpenClaim := { program := "ytakjnmojigechaagreat", sum := "6a8834813d5dd538e4186a9194dce9b5edd705daa431f5ccb63254bae6c45697", func := "moidore/moidorelaw26.ResponseColumns", spec := "responseColumns", inPlace := ["math/bits.Add64"], unfollowed := true, recurses := true, named := ["math/bits.divideError", "math/bits.overflowError"], apart := false }
def ResponseColumnsSaid : Prop := responseColumnsRow.holds Tryz.pinned (OpenSpec.ofChange responseColumnsSpec)

/-- ITS FALSE NEIGHBOUR: 'it returns false'. Refute it at one input. -/
def responseColumnsWrong : ChangeSpec := { name := "responseColumns", fn := fun _ => fun
  | [d] => { results := [.lit (.bool false)], args := [d] }
  | _ => none }
def ResponseColumnsWrongFalsely : Prop := responseColumnsRow.holds Tryz.pinned (OpenSpec.ofChange responseColumnsWrong)

/-- 'moidorelaw26.ResponseSpoilt': WHATEVER THE INPUT: true; the input reads as it did. -/
def responseSpoiltSpec : ChangeSpec := { name := "responseSpoilt", fn := fun _ => fun
  | [d1, d2] => { results := [.lit (.bool true)], args := [d1, d2] }
  | _ => none }
def responseSpoiltRow : OpenClaim := { program := "ytakjnmojigechaagreat", sum := "6a8834813d5dd538e4186a9194dce9b5edd705daa431f5ccb63254bae6c45697", func := "moidore/moidorelaw26.ResponseSpoilt", spec := "responseSpoilt", inPlace := ["math/bits.Add64"], unfollowed := true, recurses := true, named := ["math/bits.divideError", "math/bits.overflowError"], apart := false }
def ResponseSpoiltSaid : Prop := responseSpoiltRow.holds Tryz.pinned (OpenSpec.ofChange responseSpoiltSpec)

/-- ITS FALSE NEIGHBOUR: 'it returns false'. Refute it at one input. -/
def responseSpoiltWrong : ChangeSpec := { name := "responseSpoilt", fn := fun _ => fun
  | [d1, d2] => { results := [.lit (.bool false)], args := [d1, d2] }
  | _ => none }
def ResponseSpoiltWrongFalsely : Prop := responseSpoiltRow.holds Tryz.pinned (OpenSpec.ofChange responseSpoiltWrong)

/-- 'moidorelaw26.ResponseSums': WHATEVER THE INPUT: true; the input reads as it did. -/
def responseSumsSpec : ChangeSpec := { name := "responseSums", fn := fun _ => fun
  | [d1, d2] => { results := [.lit (.bool true)], args := [d1, d2] }
  | _ => none }
def responseSumsRow : OpenClaim := { program := "ytakjnmojigechaagreat", sum := "6a8834813d5dd538e4186a9194dce9b5edd705daa431f5ccb63254bae6c45697", func := "moidore/moidorelaw26.ResponseSums", spec := "responseSums", inPlace := ["math/bits.Add64"], unfollowed := true, recurses := true, named := ["math/bits.divideError", "math/bits.overflowError"], apart := false }
def ResponseSumsSaid : Prop := responseSumsRow.holds Tryz.pinned (OpenSpec.ofChange responseSumsSpec)

/-- ITS FALSE NEIGHBOUR: 'it returns false'. Refute it at one input. -/
def responseSumsWrong : ChangeSpec := { name := "responseSums", fn := fun _ => fun
  | [d1, d2] => { results := [.lit (.bool false)], args := [d1, d2] }
  | _ => none }
def ResponseSumsWrongFalsely : Prop := responseSumsRow.holds Tryz.pinned (OpenSpec.ofChange responseSumsWrong)

/-- 'moidorelaw26.ResponseTests': WHATEVER THE INPUT: true; the input reads as it did. -/
def responseTestsSpec : ChangeSpec := { name := "responseTests", fn := fun _ => fun
  | [d] => { results := [.lit (.bool true)], args := [d] }
  | _ => none }
def responseTestsRow : OpenClaim := { program := "ytakjnmojigechaagreat", sum := "6a8834813d5dd538e4186a9194dce9b5edd705daa431f5ccb63254bae6c45697", func := "moidore/moidorelaw26.ResponseTests", spec := "responseTests", inPlace := ["math/bits.Add64"], unfollowed := true, recurses := true, named := ["math/bits.divideError", "math/bits.overflowError"], apart := false }
def ResponseTestsSaid : Prop := responseTestsRow.holds Tryz.pinned (OpenSpec.ofChange responseTestsSpec)

/-- ITS FALSE NEIGHBOUR: 'it returns false'. Refute it at one input. -/
def responseTestsWrong : ChangeSpec := { name := "responseTests", fn := fun _ => fun
  | [d] => { results := [.lit (.bool false)], args := [d] }
  | _ => none }
def ResponseTestsWrongFalsely : Prop := responseTestsRow.holds Tryz.pinned (OpenSpec.ofChange responseTestsWrong)

/-- 'moidorelaw26.ResponseMasked': WHATEVER THE INPUT: true; the input reads as it did. -/
def responseMaskedSpec : ChangeSpec := { name := "responseMasked", fn := fun _ => fun
  | [d1, d2] => { results := [.lit (.bool true)], args := [d1, d2] }
  | _ => none }
def responseMaskedRow : OpenClaim := { program := "ytakjnmojigechaagreat", sum := "6a8834813d5dd538e4186a9194dce9b5edd705daa431f5ccb63254bae6c45697", func := "moidore/moidorelaw26.ResponseMasked", spec := "responseMasked", inPlace := ["math/bits.Add64"], unfollowed := true, recurses := true, named := ["math/bits.divideError", "math/bits.overflowError"], apart := false }
def ResponseMaskedSaid : Prop := responseMaskedRow.holds Tryz.pinned (OpenSpec.ofChange responseMaskedSpec)

/-- ITS FALSE NEIGHBOUR: 'it returns false'. Refute it at one input. -/
def responseMaskedWrong : ChangeSpec := { name := "responseMasked", fn := fun _ => fun
  | [d1, d2] => { results := [.lit (.bool false)], args := [d1, d2] }
  | _ => none }
def ResponseMaskedWrongFalsely : Prop := responseMaskedRow.holds Tryz.pinned (OpenSpec.ofChange responseMaskedWrong)

/- THE SECOND FORM. 'bulk': how many values and letters a reading holds, each counted each time it is reached (what is shared counts as often as it is met; a slice's spare places count too). A statement '..UptoSaid' is the law's where the arguments, and the package variables that the reading takes, are together of bulk at most 1048576: NARROWER than '..Said'. Prove '..Said' where nothing that the law and all that it calls make is longer than what came in: it says more and counts as full. Else prove '..UptoSaid'. A law counts once. -/
mutual
def uptoBulk {H : Type} : DataW H → Nat
  | .lit (.string bytes) => bytes.length + 1
  | .lit _ => 1
  | .nil => 1
  | .ptr d => uptoBulk d + 1
  | .slice elems spare => uptoBulkAll elems + uptoBulkAll spare + 1
  | .agg parts => uptoBulkAll parts + 1
  | .iface _ d => uptoBulk d + 1
  | .map entries => uptoBulkEntries entries + 1
  | .held _ => 1
def uptoBulkAll {H : Type} : List (DataW H) → Nat
  | [] => 0
  | d :: r => uptoBulk d + uptoBulkAll r
def uptoBulkEntries {H : Type} : List (Lit × DataW H) → Nat
  | [] => 0
  | x :: r => uptoBulkEntry x + uptoBulkEntries r
def uptoBulkEntry {H : Type} : Lit × DataW H → Nat
  | (.string bytes, d) => bytes.length + uptoBulk d + 1
  | (_, d) => uptoBulk d + 1
 end
def uptoSmall : (H : Type) → List (DataW H) → Bool := fun _ ds => decide (uptoBulkAll ds ≤ 1048576)
def OpenSpec.upto (s : _root_.Go.ChangeSpec) : _root_.Go.OpenSpec := { _root_.Go.OpenSpec.ofChange s with cond := some uptoSmall }

/-- 'moidorelaw26.ResponseAnswer', WHERE WHAT IT READS IS OF BULK AT MOST 1048576: true; the input reads as it did. -/
def responseAnswerUptoRow : OpenClaim := { program := "ytakjnmojigechaagreat", sum := "6a8834813d5dd538e4186a9194dce9b5edd705daa431f5ccb63254bae6c45697", func := "moidore/moidorelaw26.ResponseAnswer", spec := "responseAnswer", inPlace := ["math/bits.Add64"], unfollowed := true, recurses := true, named := ["math/bits.divideError", "math/bits.overflowError"], apart := false, narrowed := true }
def ResponseAnswerUptoSaid : Prop := responseAnswerUptoRow.holds Tryz.pinned (OpenSpec.upto responseAnswerSpec)

/-- 'moidorelaw26.ResponseComplete', WHERE WHAT IT READS IS OF BULK AT MOST 1048576: true; the input reads as it did. -/
def responseCompleteUptoRow : OpenClaim := { program := "ytakjnmojigechaagreat", sum := "6a8834813d5dd538e4186a9194dce9b5edd705daa431f5ccb63254bae6c45697", func := "moidore/moidorelaw26.ResponseComplete", spec := "responseComplete", inPlace := ["math/bits.Add64"], unfollowed := true, recurses := true, named := ["math/bits.divideError", "math/bits.overflowError"], apart := false, narrowed := true }
def ResponseCompleteUptoSaid : Prop := responseCompleteUptoRow.holds Tryz.pinned (OpenSpec.upto responseCompleteSpec)

/-- 'moidorelaw26.ResponseColumns', WHERE WHAT IT READS IS OF BULK AT MOST 1048576: true; the input reads as it did. -/
def responseColumnsUptoRow : OpenClaim := { program := "ytakjnmojigechaagreat", sum := "6a8834813d5dd538e4186a9194dce9b5edd705daa431f5ccb63254bae6c45697", func := "moidore/moidorelaw26.ResponseColumns", spec := "responseColumns", inPlace := ["math/bits.Add64"], unfollowed := true, recurses := true, named := ["math/bits.divideError", "math/bits.overflowError"], apart := false, narrowed := true }
def ResponseColumnsUptoSaid : Prop := responseColumnsUptoRow.holds Tryz.pinned (OpenSpec.upto responseColumnsSpec)

/-- 'moidorelaw26.ResponseSpoilt', WHERE WHAT IT READS IS OF BULK AT MOST 1048576: true; the input reads as it did. -/
def responseSpoiltUptoRow : OpenClaim := { program := "ytakjnmojigechaagreat", sum := "6a8834813d5dd538e4186a9194dce9b5edd705daa431f5ccb63254bae6c45697", func := "moidore/moidorelaw26.ResponseSpoilt", spec := "responseSpoilt", inPlace := ["math/bits.Add64"], unfollowed := true, recurses := true, named := ["math/bits.divideError", "math/bits.overflowError"], apart := false, narrowed := true }
def ResponseSpoiltUptoSaid : Prop := responseSpoiltUptoRow.holds Tryz.pinned (OpenSpec.upto responseSpoiltSpec)

/-- 'moidorelaw26.ResponseSums', WHERE WHAT IT READS IS OF BULK AT MOST 1048576: true; the input reads as it did. -/
def responseSumsUptoRow : OpenClaim := { program := "ytakjnmojigechaagreat", sum := "6a8834813d5dd538e4186a9194dce9b5edd705daa431f5ccb63254bae6c45697", func := "moidore/moidorelaw26.ResponseSums", spec := "responseSums", inPlace := ["math/bits.Add64"], unfollowed := true, recurses := true, named := ["math/bits.divideError", "math/bits.overflowError"], apart := false, narrowed := true }
def ResponseSumsUptoSaid : Prop := responseSumsUptoRow.holds Tryz.pinned (OpenSpec.upto responseSumsSpec)

/-- 'moidorelaw26.ResponseTests', WHERE WHAT IT READS IS OF BULK AT MOST 1048576: true; the input reads as it did. -/
def responseTestsUptoRow : OpenClaim := { program := "ytakjnmojigechaagreat", sum := "6a8834813d5dd538e4186a9194dce9b5edd705daa431f5ccb63254bae6c45697", func := "moidore/moidorelaw26.ResponseTests", spec := "responseTests", inPlace := ["math/bits.Add64"], unfollowed := true, recurses := true, named := ["math/bits.divideError", "math/bits.overflowError"], apart := false, narrowed := true }
def ResponseTestsUptoSaid : Prop := responseTestsUptoRow.holds Tryz.pinned (OpenSpec.upto responseTestsSpec)

/-- 'moidorelaw26.ResponseMasked', WHERE WHAT IT READS IS OF BULK AT MOST 1048576: true; the input reads as it did. -/
def responseMaskedUptoRow : OpenClaim := { program := "ytakjnmojigechaagreat", sum := "6a8834813d5dd538e4186a9194dce9b5edd705daa431f5ccb63254bae6c45697", func := "moidore/moidorelaw26.ResponseMasked", spec := "responseMasked", inPlace := ["math/bits.Add64"], unfollowed := true, recurses := true, named := ["math/bits.divideError", "math/bits.overflowError"], apart := false, narrowed := true }
def ResponseMaskedUptoSaid : Prop := responseMaskedUptoRow.holds Tryz.pinned (OpenSpec.upto responseMaskedSpec)

end Rows
end Go.Proofs.YtakjnmojigechaaGreat
