/-
  No cell of these rows narrows 'for every input' (looked for: loops, veiled, ifaces, maps, wideKeys, modest, calm, conditions, laid).
  DERIVED. THE GIVEN ROWS OF THIS SEAT. 10 by the template 'for every input the law returns true; each argument reads behind the call as it read before'; 0 by the template 'total and deterministic' (their statements: YtlilbddpelbngaaTotals.lean).
  GIVEN WITH THE SEED: the statements are not yours to turn. If you find one false, say at which input.
  Laid BY PROGRAM, IN A SANDBOX (cutbox-rows.mjs): the forced cells as the released guide's own fill.sh prints them over the translation 45217f58118859a0… (all of the seat's roots in one cut). By AI agents, Wed Nov 11 2026. No macro, syntax, notation, axiom, sorry.
-/
import Derived.Test.YtlilbddpelbngaaChecked
import GoSem.Claim
import GoSem.ClaimJoined
import GoSem.ClaimMapViews
import Derived.JoinedTies
import Derived.KernelRfl
namespace Go.Proofs.Ytlilbddpelbngaa
/- THE CELL 'sum', in the pinned program and in every row, IS THE sha256 OF THE DUMP (.gsa) THAT YtlilbddpelbngaaProg.lean LOADS. Nothing in Lean hashes anything: it is a label: what it is worth is what the hold of that sum in a sandbox is worth. -/
noncomputable def Try.pinned : Pinned := { name := "ytlilbddpelbngaa", sum := "45217f58118859a0a7119284d27765b0393b7b90ee6cd736f83096ceb6b656ce", checked := Try.checked }
namespace Rows
def none {H : Type} : Left H := { results := [], args := [] }

/-- 'fullinglaw1.WordExamples': WHATEVER THE INPUT: true; the input reads as it did. -/
def wordExamplesSpec : ChangeSpec := { name := "wordExamples", fn := fun _ => fun
  | [] => { results := [.lit (.bool true)], args := [] }
  | _ => none }
def wordExamplesRow : OpenClaim := { program := "ytlilbddpelbngaa", sum := "45217f58118859a0a7119284d27765b0393b7b90ee6cd736f83096ceb6b656ce", func := "fulling/fullinglaw1.WordExamples", spec := "wordExamples", apart := false }
def WordExamplesSaid : Prop := wordExamplesRow.holds Try.pinned (OpenSpec.ofChange wordExamplesSpec)

/-- ITS FALSE NEIGHBOUR: 'it returns false'. Refute it at one input. -/
def wordExamplesWrong : ChangeSpec := { name := "wordExamples", fn := fun _ => fun
  | [] => { results := [.lit (.bool false)], args := [] }
  | _ => none }
def WordExamplesWrongFalsely : Prop := wordExamplesRow.holds Try.pinned (OpenSpec.ofChange wordExamplesWrong)

/-- 'fullinglaw1.WordDivision': WHATEVER THE INPUT: true; the input reads as it did. -/
def wordDivisionSpec : ChangeSpec := { name := "wordDivision", fn := fun _ => fun
  | [d1, d2, d3, d4] => { results := [.lit (.bool true)], args := [d1, d2, d3, d4] }
  | _ => none }
def wordDivisionRow : OpenClaim := { program := "ytlilbddpelbngaa", sum := "45217f58118859a0a7119284d27765b0393b7b90ee6cd736f83096ceb6b656ce", func := "fulling/fullinglaw1.WordDivision", spec := "wordDivision", apart := false }
def WordDivisionSaid : Prop := wordDivisionRow.holds Try.pinned (OpenSpec.ofChange wordDivisionSpec)

/-- ITS FALSE NEIGHBOUR: 'it returns false'. Refute it at one input. -/
def wordDivisionWrong : ChangeSpec := { name := "wordDivision", fn := fun _ => fun
  | [d1, d2, d3, d4] => { results := [.lit (.bool false)], args := [d1, d2, d3, d4] }
  | _ => none }
def WordDivisionWrongFalsely : Prop := wordDivisionRow.holds Try.pinned (OpenSpec.ofChange wordDivisionWrong)

/-- 'fullinglaw1.WordBitwise': WHATEVER THE INPUT: true; the input reads as it did. -/
def wordBitwiseSpec : ChangeSpec := { name := "wordBitwise", fn := fun _ => fun
  | [d1, d2, d3] => { results := [.lit (.bool true)], args := [d1, d2, d3] }
  | _ => none }
def wordBitwiseRow : OpenClaim := { program := "ytlilbddpelbngaa", sum := "45217f58118859a0a7119284d27765b0393b7b90ee6cd736f83096ceb6b656ce", func := "fulling/fullinglaw1.WordBitwise", spec := "wordBitwise", apart := false }
def WordBitwiseSaid : Prop := wordBitwiseRow.holds Try.pinned (OpenSpec.ofChange wordBitwiseSpec)

/-- ITS FALSE NEIGHBOUR: 'it returns false'. Refute it at one input. -/
def wordBitwiseWrong : ChangeSpec := { name := "wordBitwise", fn := fun _ => fun
  | [d1, d2, d3] => { results := [.lit (.bool false)], args := [d1, d2, d3] }
  | _ => none }
def WordBitwiseWrongFalsely : Prop := wordBitwiseRow.holds Try.pinned (OpenSpec.ofChange wordBitwiseWrong)

/-- 'fullinglaw1.WordComparison': WHATEVER THE INPUT: true; the input reads as it did. -/
def wordComparisonSpec : ChangeSpec := { name := "wordComparison", fn := fun _ => fun
  | [d1, d2, d3, d4] => { results := [.lit (.bool true)], args := [d1, d2, d3, d4] }
  | _ => none }
def wordComparisonRow : OpenClaim := { program := "ytlilbddpelbngaa", sum := "45217f58118859a0a7119284d27765b0393b7b90ee6cd736f83096ceb6b656ce", func := "fulling/fullinglaw1.WordComparison", spec := "wordComparison", apart := false }
def WordComparisonSaid : Prop := wordComparisonRow.holds Try.pinned (OpenSpec.ofChange wordComparisonSpec)

/-- ITS FALSE NEIGHBOUR: 'it returns false'. Refute it at one input. -/
def wordComparisonWrong : ChangeSpec := { name := "wordComparison", fn := fun _ => fun
  | [d1, d2, d3, d4] => { results := [.lit (.bool false)], args := [d1, d2, d3, d4] }
  | _ => none }
def WordComparisonWrongFalsely : Prop := wordComparisonRow.holds Try.pinned (OpenSpec.ofChange wordComparisonWrong)

/-- 'fullinglaw1.WordRoundTrip': WHATEVER THE INPUT: true; the input reads as it did. -/
def wordRoundTripSpec : ChangeSpec := { name := "wordRoundTrip", fn := fun _ => fun
  | [d1, d2, d3, d4] => { results := [.lit (.bool true)], args := [d1, d2, d3, d4] }
  | _ => none }
def wordRoundTripRow : OpenClaim := { program := "ytlilbddpelbngaa", sum := "45217f58118859a0a7119284d27765b0393b7b90ee6cd736f83096ceb6b656ce", func := "fulling/fullinglaw1.WordRoundTrip", spec := "wordRoundTrip", apart := false }
def WordRoundTripSaid : Prop := wordRoundTripRow.holds Try.pinned (OpenSpec.ofChange wordRoundTripSpec)

/-- ITS FALSE NEIGHBOUR: 'it returns false'. Refute it at one input. -/
def wordRoundTripWrong : ChangeSpec := { name := "wordRoundTrip", fn := fun _ => fun
  | [d1, d2, d3, d4] => { results := [.lit (.bool false)], args := [d1, d2, d3, d4] }
  | _ => none }
def WordRoundTripWrongFalsely : Prop := wordRoundTripRow.holds Try.pinned (OpenSpec.ofChange wordRoundTripWrong)

/-- 'fullinglaw1.WordShiftsCompose': WHATEVER THE INPUT: true; the input reads as it did. -/
def wordShiftsComposeSpec : ChangeSpec := { name := "wordShiftsCompose", fn := fun _ => fun
  | [d1, d2, d3] => { results := [.lit (.bool true)], args := [d1, d2, d3] }
  | _ => none }
def wordShiftsComposeRow : OpenClaim := { program := "ytlilbddpelbngaa", sum := "45217f58118859a0a7119284d27765b0393b7b90ee6cd736f83096ceb6b656ce", func := "fulling/fullinglaw1.WordShiftsCompose", spec := "wordShiftsCompose", apart := false }
def WordShiftsComposeSaid : Prop := wordShiftsComposeRow.holds Try.pinned (OpenSpec.ofChange wordShiftsComposeSpec)

/-- ITS FALSE NEIGHBOUR: 'it returns false'. Refute it at one input. -/
def wordShiftsComposeWrong : ChangeSpec := { name := "wordShiftsCompose", fn := fun _ => fun
  | [d1, d2, d3] => { results := [.lit (.bool false)], args := [d1, d2, d3] }
  | _ => none }
def WordShiftsComposeWrongFalsely : Prop := wordShiftsComposeRow.holds Try.pinned (OpenSpec.ofChange wordShiftsComposeWrong)

/-- 'fullinglaw1.WordArithmeticShift': WHATEVER THE INPUT: true; the input reads as it did. -/
def wordArithmeticShiftSpec : ChangeSpec := { name := "wordArithmeticShift", fn := fun _ => fun
  | [d1, d2] => { results := [.lit (.bool true)], args := [d1, d2] }
  | _ => none }
def wordArithmeticShiftRow : OpenClaim := { program := "ytlilbddpelbngaa", sum := "45217f58118859a0a7119284d27765b0393b7b90ee6cd736f83096ceb6b656ce", func := "fulling/fullinglaw1.WordArithmeticShift", spec := "wordArithmeticShift", apart := false }
def WordArithmeticShiftSaid : Prop := wordArithmeticShiftRow.holds Try.pinned (OpenSpec.ofChange wordArithmeticShiftSpec)

/-- ITS FALSE NEIGHBOUR: 'it returns false'. Refute it at one input. -/
def wordArithmeticShiftWrong : ChangeSpec := { name := "wordArithmeticShift", fn := fun _ => fun
  | [d1, d2] => { results := [.lit (.bool false)], args := [d1, d2] }
  | _ => none }
def WordArithmeticShiftWrongFalsely : Prop := wordArithmeticShiftRow.holds Try.pinned (OpenSpec.ofChange wordArithmeticShiftWrong)

/-- 'fullinglaw1.WordReference': WHATEVER THE INPUT: true; the input reads as it did. -/
def wordReferenceSpec : ChangeSpec := { name := "wordReference", fn := fun _ => fun
  | [d1, d2, d3, d4, d5, d6] => { results := [.lit (.bool true)], args := [d1, d2, d3, d4, d5, d6] }
  | _ => none }
def wordReferenceRow : OpenClaim := { program := "ytlilbddpelbngaa", sum := "45217f58118859a0a7119284d27765b0393b7b90ee6cd736f83096ceb6b656ce", func := "fulling/fullinglaw1.WordReference", spec := "wordReference", recurses := true, apart := false }
def WordReferenceSaid : Prop := wordReferenceRow.holds Try.pinned (OpenSpec.ofChange wordReferenceSpec)

/-- ITS FALSE NEIGHBOUR: 'it returns false'. Refute it at one input. -/
def wordReferenceWrong : ChangeSpec := { name := "wordReference", fn := fun _ => fun
  | [d1, d2, d3, d4, d5, d6] => { results := [.lit (.bool false)], args := [d1, d2, d3, d4, d5, d6] }
  | _ => none }
def WordReferenceWrongFalsely : Prop := wordReferenceRow.holds Try.pinned (OpenSpec.ofChange wordReferenceWrong)

/-- 'fullinglaw1.WordRingLaws': WHATEVER THE INPUT: true; the input reads as it did. -/
def wordRingLawsSpec : ChangeSpec := { name := "wordRingLaws", fn := fun _ => fun
  | [d1, d2, d3] => { results := [.lit (.bool true)], args := [d1, d2, d3] }
  | _ => none }
def wordRingLawsRow : OpenClaim := { program := "ytlilbddpelbngaa", sum := "45217f58118859a0a7119284d27765b0393b7b90ee6cd736f83096ceb6b656ce", func := "fulling/fullinglaw1.WordRingLaws", spec := "wordRingLaws", apart := false }
def WordRingLawsSaid : Prop := wordRingLawsRow.holds Try.pinned (OpenSpec.ofChange wordRingLawsSpec)

/-- ITS FALSE NEIGHBOUR: 'it returns false'. Refute it at one input. -/
def wordRingLawsWrong : ChangeSpec := { name := "wordRingLaws", fn := fun _ => fun
  | [d1, d2, d3] => { results := [.lit (.bool false)], args := [d1, d2, d3] }
  | _ => none }
def WordRingLawsWrongFalsely : Prop := wordRingLawsRow.holds Try.pinned (OpenSpec.ofChange wordRingLawsWrong)

/-- 'fullinglaw1.WordUndefined': WHATEVER THE INPUT: true; the input reads as it did. -/
def wordUndefinedSpec : ChangeSpec := { name := "wordUndefined", fn := fun _ => fun
  | [d1, d2, d3] => { results := [.lit (.bool true)], args := [d1, d2, d3] }
  | _ => none }
def wordUndefinedRow : OpenClaim := { program := "ytlilbddpelbngaa", sum := "45217f58118859a0a7119284d27765b0393b7b90ee6cd736f83096ceb6b656ce", func := "fulling/fullinglaw1.WordUndefined", spec := "wordUndefined", apart := false }
def WordUndefinedSaid : Prop := wordUndefinedRow.holds Try.pinned (OpenSpec.ofChange wordUndefinedSpec)

/-- ITS FALSE NEIGHBOUR: 'it returns false'. Refute it at one input. -/
def wordUndefinedWrong : ChangeSpec := { name := "wordUndefined", fn := fun _ => fun
  | [d1, d2, d3] => { results := [.lit (.bool false)], args := [d1, d2, d3] }
  | _ => none }
def WordUndefinedWrongFalsely : Prop := wordUndefinedRow.holds Try.pinned (OpenSpec.ofChange wordUndefinedWrong)

/- THE SECOND FORM. 'bulk': how many values and letters a reading holds, each counted each time it is reached (what is shared counts as often as it is met; a slice's spare places count too). A statement '..UptoSaid' is the law's where the arguments, and the package variables that the reading takes, are together of bulk at most 1048576: NARROWER than '..Said'. Prove '..Said' where nothing that the law and all that it calls make is longer than what came in: it says more and counts as full. Else prove '..UptoSaid'. A law counts once. -/
mutual
def uptoBulk {H : Type} : DataW H → Nat
  | .lit (.string bytes) => bytes.length + 1
  | .lit _ => 1
  | .nil => 1
  | .ptr d => uptoBulk d + 1
  | .slice elems spare => uptoBulkAll elems + uptoBulkAll spare + 1
  | .agg parts => uptoBulkAll parts + 1
  | .iface _ d => uptoBulk d + 1
  | .map entries => uptoBulkEntries entries + 1
  | .held _ => 1
def uptoBulkAll {H : Type} : List (DataW H) → Nat
  | [] => 0
  | d :: r => uptoBulk d + uptoBulkAll r
def uptoBulkEntries {H : Type} : List (Lit × DataW H) → Nat
  | [] => 0
  | x :: r => uptoBulkEntry x + uptoBulkEntries r
def uptoBulkEntry {H : Type} : Lit × DataW H → Nat
  | (.string bytes, d) => bytes.length + uptoBulk d + 1
  | (_, d) => uptoBulk d + 1
 end
def uptoSmall : (H : Type) → List (DataW H) → Bool := fun _ ds => decide (uptoBulkAll ds ≤ 1048576)
def OpenSpec.upto (s : _root_.Go.ChangeSpec) : _root_.Go.OpenSpec := { _root_.Go.OpenSpec.ofChange s with cond := some uptoSmall }

/-- 'fullinglaw1.WordExamples', WHERE WHAT IT READS IS OF BULK AT MOST 1048576: true; the input reads as it did. -/
def wordExamplesUptoRow : OpenClaim := { program := "ytlilbddpelbngaa", sum := "45217f58118859a0a7119284d27765b0393b7b90ee6cd736f83096ceb6b656ce", func := "fulling/fullinglaw1.WordExamples", spec := "wordExamples", apart := false, narrowed := true }
def WordExamplesUptoSaid : Prop := wordExamplesUptoRow.holds Try.pinned (OpenSpec.upto wordExamplesSpec)

/-- 'fullinglaw1.WordDivision', WHERE WHAT IT READS IS OF BULK AT MOST 1048576: true; the input reads as it did. -/
def wordDivisionUptoRow : OpenClaim := { program := "ytlilbddpelbngaa", sum := "45217f58118859a0a7119284d27765b0393b7b90ee6cd736f83096ceb6b656ce", func := "fulling/fullinglaw1.WordDivision", spec := "wordDivision", apart := false, narrowed := true }
def WordDivisionUptoSaid : Prop := wordDivisionUptoRow.holds Try.pinned (OpenSpec.upto wordDivisionSpec)

/-- 'fullinglaw1.WordBitwise', WHERE WHAT IT READS IS OF BULK AT MOST 1048576: true; the input reads as it did. -/
def wordBitwiseUptoRow : OpenClaim := { program := "ytlilbddpelbngaa", sum := "45217f58118859a0a7119284d27765b0393b7b90ee6cd736f83096ceb6b656ce", func := "fulling/fullinglaw1.WordBitwise", spec := "wordBitwise", apart := false, narrowed := true }
def WordBitwiseUptoSaid : Prop := wordBitwiseUptoRow.holds Try.pinned (OpenSpec.upto wordBitwiseSpec)

/-- 'fullinglaw1.WordComparison', WHERE WHAT IT READS IS OF BULK AT MOST 1048576: true; the input reads as it did. -/
def wordComparisonUptoRow : OpenClaim := { program := "ytlilbddpelbngaa", sum := "45217f58118859a0a7119284d27765b0393b7b90ee6cd736f83096ceb6b656ce", func := "fulling/fullinglaw1.WordComparison", spec := "wordComparison", apart := false, narrowed := true }
def WordComparisonUptoSaid : Prop := wordComparisonUptoRow.holds Try.pinned (OpenSpec.upto wordComparisonSpec)

/-- 'fullinglaw1.WordRoundTrip', WHERE WHAT IT READS IS OF BULK AT MOST 1048576: true; the input reads as it did. -/
def wordRoundTripUptoRow : OpenClaim := { program := "ytlilbddpelbngaa", sum := "45217f58118859a0a7119284d27765b0393b7b90ee6cd736f83096ceb6b656ce", func := "fulling/fullinglaw1.WordRoundTrip", spec := "wordRoundTrip", apart := false, narrowed := true }
def WordRoundTripUptoSaid : Prop := wordRoundTripUptoRow.holds Try.pinned (OpenSpec.upto wordRoundTripSpec)

/-- 'fullinglaw1.WordShiftsCompose', WHERE WHAT IT READS IS OF BULK AT MOST 1048576: true; the input reads as it did. -/
def wordShiftsComposeUptoRow : OpenClaim := { program := "ytlilbddpelbngaa", sum := "45217f58118859a0a7119284d27765b0393b7b90ee6cd736f83096ceb6b656ce", func := "fulling/fullinglaw1.WordShiftsCompose", spec := "wordShiftsCompose", apart := false, narrowed := true }
def WordShiftsComposeUptoSaid : Prop := wordShiftsComposeUptoRow.holds Try.pinned (OpenSpec.upto wordShiftsComposeSpec)

/-- 'fullinglaw1.WordArithmeticShift', WHERE WHAT IT READS IS OF BULK AT MOST 1048576: true; the input reads as it did. -/
def wordArithmeticShiftUptoRow : OpenClaim := { program := "ytlilbddpelbngaa", sum := "45217f58118859a0a7119284d27765b0393b7b90ee6cd736f83096ceb6b656ce", func := "fulling/fullinglaw1.WordArithmeticShift", spec := "wordArithmeticShift", apart := false, narrowed := true }
def WordArithmeticShiftUptoSaid : Prop := wordArithmeticShiftUptoRow.holds Try.pinned (OpenSpec.upto wordArithmeticShiftSpec)

/-- 'fullinglaw1.WordReference', WHERE WHAT IT READS IS OF BULK AT MOST 1048576: true; the input reads as it did. -/
def wordReferenceUptoRow : OpenClaim := { program := "ytlilbddpelbngaa", sum := "45217f58118859a0a7119284d27765b0393b7b90ee6cd736f83096ceb6b656ce", func := "fulling/fullinglaw1.WordReference", spec := "wordReference", recurses := true, apart := false, narrowed := true }
def WordReferenceUptoSaid : Prop := wordReferenceUptoRow.holds Try.pinned (OpenSpec.upto wordReferenceSpec)

/-- 'fullinglaw1.WordRingLaws', WHERE WHAT IT READS IS OF BULK AT MOST 1048576: true; the input reads as it did. -/
def wordRingLawsUptoRow : OpenClaim := { program := "ytlilbddpelbngaa", sum := "45217f58118859a0a7119284d27765b0393b7b90ee6cd736f83096ceb6b656ce", func := "fulling/fullinglaw1.WordRingLaws", spec := "wordRingLaws", apart := false, narrowed := true }
def WordRingLawsUptoSaid : Prop := wordRingLawsUptoRow.holds Try.pinned (OpenSpec.upto wordRingLawsSpec)

/-- 'fullinglaw1.WordUndefined', WHERE WHAT IT READS IS OF BULK AT MOST 1048576: true; the input reads as it did. -/
def wordUndefinedUptoRow : OpenClaim := { program := "ytlilbddpelbngaa", sum := "45217f58118859a0a7119284d27765b0393b7b90ee6cd736f83096ceb6b656ce", func := "fulling/fullinglaw1.WordUndefined", spec := "wordUndefined", apart := false, narrowed := true }
def WordUndefinedUptoSaid : Prop := wordUndefinedUptoRow.holds Try.pinned (OpenSpec.upto wordUndefinedSpec)

end Rows
end Go.Proofs.Ytlilbddpelbngaa
