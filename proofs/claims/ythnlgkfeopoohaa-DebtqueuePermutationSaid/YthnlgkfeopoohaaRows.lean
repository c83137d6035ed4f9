/-
  No cell of these rows narrows 'for every input' (looked for: loops, veiled, ifaces, maps, wideKeys, modest, calm, conditions, laid).
  DERIVED. THE GIVEN ROWS OF THIS SEAT. 7 by the template 'for every input the law returns true; each argument reads behind the call as it read before'; 0 by the template 'total and deterministic' (their statements: YthnlgkfeopoohaaTotals.lean).
  GIVEN WITH THE SEED: the statements are not yours to turn. If you find one false, say at which input.
  Laid BY PROGRAM, IN A SANDBOX (cutbox-rows.mjs): the forced cells as the released guide's own fill.sh prints them over the translation 6d5569c8f2c49103… (all of the seat's roots in one cut). By AI agents, Wed Nov 11 2026. No macro, syntax, notation, axiom, sorry.
-/
import Derived.Test.YthnlgkfeopoohaaChecked
import GoSem.Claim
import GoSem.ClaimJoined
import GoSem.ClaimMapViews
import Derived.JoinedTies
import Derived.KernelRfl
namespace Go.Proofs.Ythnlgkfeopoohaa
/- THE CELL 'sum', in the pinned program and in every row, IS THE sha256 OF THE DUMP (.gsa) THAT YthnlgkfeopoohaaProg.lean LOADS. Nothing in Lean hashes anything: it is a label: what it is worth is what the hold of that sum in a sandbox is worth. -/
noncomputable def Try.pinned : Pinned := { name := "ythnlgkfeopoohaa", sum := "6d5569c8f2c4910352a9aa525f7d7f8e0b0095170f80e282429cb68bc588db5f", checked := Try.checked }
namespace Rows
def none {H : Type} : Left H := { results := [], args := [] }

/-- 'pontagelaw23.TxfeeGasPriceBounds': WHATEVER THE INPUT: true; the input reads as it did. -/
def txfeeGasPriceBoundsSpec : ChangeSpec := { name := "txfeeGasPriceBounds", fn := fun _ => fun
  | [d1, d2] => { results := [.lit (.bool true)], args := [d1, d2] }
  | _ => none }
def txfeeGasPriceBoundsRow : OpenClaim := { program := "ythnlgkfeopoohaa", sum := "6d5569c8f2c4910352a9aa525f7d7f8e0b0095170f80e282429cb68bc588db5f", func := "pontage/pontagelaw23.TxfeeGasPriceBounds", spec := "txfeeGasPriceBounds", inPlace := ["math/bits.Sub64", "math/bits.Add64"], apart := false }
def TxfeeGasPriceBoundsSaid : Prop := txfeeGasPriceBoundsRow.holds Try.pinned (OpenSpec.ofChange txfeeGasPriceBoundsSpec)

/-- ITS FALSE NEIGHBOUR: 'it returns false'. Refute it at one input. -/
def txfeeGasPriceBoundsWrong : ChangeSpec := { name := "txfeeGasPriceBounds", fn := fun _ => fun
  | [d1, d2] => { results := [.lit (.bool false)], args := [d1, d2] }
  | _ => none }
def TxfeeGasPriceBoundsWrongFalsely : Prop := txfeeGasPriceBoundsRow.holds Try.pinned (OpenSpec.ofChange txfeeGasPriceBoundsWrong)

/-- 'pontagelaw23.TxFeeSum': WHATEVER THE INPUT: true; the input reads as it did. -/
def txFeeSumSpec : ChangeSpec := { name := "txFeeSum", fn := fun _ => fun
  | [d1, d2] => { results := [.lit (.bool true)], args := [d1, d2] }
  | _ => none }
def txFeeSumRow : OpenClaim := { program := "ythnlgkfeopoohaa", sum := "6d5569c8f2c4910352a9aa525f7d7f8e0b0095170f80e282429cb68bc588db5f", func := "pontage/pontagelaw23.TxFeeSum", spec := "txFeeSum", inPlace := ["math/bits.Add64", "math/bits.Sub64"], apart := false }
def TxFeeSumSaid : Prop := txFeeSumRow.holds Try.pinned (OpenSpec.ofChange txFeeSumSpec)

/-- ITS FALSE NEIGHBOUR: 'it returns false'. Refute it at one input. -/
def txFeeSumWrong : ChangeSpec := { name := "txFeeSum", fn := fun _ => fun
  | [d1, d2] => { results := [.lit (.bool false)], args := [d1, d2] }
  | _ => none }
def TxFeeSumWrongFalsely : Prop := txFeeSumRow.holds Try.pinned (OpenSpec.ofChange txFeeSumWrong)

/-- 'pontagelaw17.DebtQueueOrder': WHATEVER THE INPUT: true; the input reads as it did. -/
def debtQueueOrderSpec : ChangeSpec := { name := "debtQueueOrder", fn := fun _ => fun
  | [d1, d2] => { results := [.lit (.bool true)], args := [d1, d2] }
  | _ => none }
def debtQueueOrderRow : OpenClaim := { program := "ythnlgkfeopoohaa", sum := "6d5569c8f2c4910352a9aa525f7d7f8e0b0095170f80e282429cb68bc588db5f", func := "pontage/pontagelaw17.DebtQueueOrder", spec := "debtQueueOrder", unfollowed := true, recurses := true, apart := false }
def DebtQueueOrderSaid : Prop := debtQueueOrderRow.holds Try.pinned (OpenSpec.ofChange debtQueueOrderSpec)

/-- ITS FALSE NEIGHBOUR: 'it returns false'. Refute it at one input. -/
def debtQueueOrderWrong : ChangeSpec := { name := "debtQueueOrder", fn := fun _ => fun
  | [d1, d2] => { results := [.lit (.bool false)], args := [d1, d2] }
  | _ => none }
def DebtQueueOrderWrongFalsely : Prop := debtQueueOrderRow.holds Try.pinned (OpenSpec.ofChange debtQueueOrderWrong)

/-- 'pontagelaw17.DebtQueueComplete': WHATEVER THE INPUT: true; the input reads as it did. -/
def debtQueueCompleteSpec : ChangeSpec := { name := "debtQueueComplete", fn := fun _ => fun
  | [d1, d2] => { results := [.lit (.bool true)], args := [d1, d2] }
  | _ => none }
def debtQueueCompleteRow : OpenClaim := { program := "ythnlgkfeopoohaa", sum := "6d5569c8f2c4910352a9aa525f7d7f8e0b0095170f80e282429cb68bc588db5f", func := "pontage/pontagelaw17.DebtQueueComplete", spec := "debtQueueComplete", unfollowed := true, recurses := true, apart := false }
def DebtQueueCompleteSaid : Prop := debtQueueCompleteRow.holds Try.pinned (OpenSpec.ofChange debtQueueCompleteSpec)

/-- ITS FALSE NEIGHBOUR: 'it returns false'. Refute it at one input. -/
def debtQueueCompleteWrong : ChangeSpec := { name := "debtQueueComplete", fn := fun _ => fun
  | [d1, d2] => { results := [.lit (.bool false)], args := [d1, d2] }
  | _ => none }
def DebtQueueCompleteWrongFalsely : Prop := debtQueueCompleteRow.holds Try.pinned (OpenSpec.ofChange debtQueueCompleteWrong)

/-- 'pontagelaw17.DebtQueueEmpty': WHATEVER THE INPUT: true; the input reads as it did. -/
def debtQueueEmptySpec : ChangeSpec := { name := "debtQueueEmpty", fn := fun _ => fun
  | [d1, d2] => { results := [.lit (.bool true)], args := [d1, d2] }
  | _ => none }
def debtQueueEmptyRow : OpenClaim := { program := "ythnlgkfeopoohaa", sum := "6d5569c8f2c4910352a9aa525f7d7f8e0b0095170f80e282429cb68bc588db5f", func := "pontage/pontagelaw17.DebtQueueEmpty", spec := "debtQueueEmpty", unfollowed := true, recurses := true, apart := false }
def DebtQueueEmptySaid : Prop := debtQueueEmptyRow.holds Try.pinned (OpenSpec.ofChange debtQueueEmptySpec)

/-- ITS FALSE NEIGHBOUR: 'it returns false'. Refute it at one input. -/
def debtQueueEmptyWrong : ChangeSpec := { name := "debtQueueEmpty", fn := fun _ => fun
  | [d1, d2] => { results := [.lit (.bool false)], args := [d1, d2] }
  | _ => none }
def DebtQueueEmptyWrongFalsely : Prop := debtQueueEmptyRow.holds Try.pinned (OpenSpec.ofChange debtQueueEmptyWrong)

/-- 'pontagelaw17.DebtqueuePermutation': WHATEVER THE INPUT: true; the input reads as it did. -/
def debtqueuePermutationSpec : ChangeSpec := { name := "debtqueuePermutation", fn := fun _ => fun
  | [d] => { results := [.lit (.bool true)], args := [d] }
  | _ => none }
def debtqueuePermutationRow : OpenClaim := { program := "ythnlgkfeopoohaa", sum := "6d5569c8f2c4910352a9aa525f7d7f8e0b0095170f80e282429cb68bc588db5f", func := "pontage/pontagelaw17.DebtqueuePermutation", spec := "debtqueuePermutation", unfollowed := true, recurses := true, apart := false }
def DebtqueuePermutationSaid : Prop := debtqueuePermutationRow.holds Try.pinned (OpenSpec.ofChange debtqueuePermutationSpec)

/-- ITS FALSE NEIGHBOUR: 'it returns false'. Refute it at one input. -/
def debtqueuePermutationWrong : ChangeSpec := { name := "debtqueuePermutation", fn := fun _ => fun
  | [d] => { results := [.lit (.bool false)], args := [d] }
  | _ => none }
def DebtqueuePermutationWrongFalsely : Prop := debtqueuePermutationRow.holds Try.pinned (OpenSpec.ofChange debtqueuePermutationWrong)

/-- 'pontagelaw23.TxFeeGasPrice': WHATEVER THE INPUT: true; the input reads as it did. -/
def txFeeGasPriceSpec : ChangeSpec := { name := "txFeeGasPrice", fn := fun _ => fun
  | [d1, d2, d3, d4, d5] => { results := [.lit (.bool true)], args := [d1, d2, d3, d4, d5] }
  | _ => none }
def txFeeGasPriceRow : OpenClaim := { program := "ythnlgkfeopoohaa", sum := "6d5569c8f2c4910352a9aa525f7d7f8e0b0095170f80e282429cb68bc588db5f", func := "pontage/pontagelaw23.TxFeeGasPrice", spec := "txFeeGasPrice", inPlace := ["math/bits.Sub64", "math/bits.Add64"], apart := false }
def TxFeeGasPriceSaid : Prop := txFeeGasPriceRow.holds Try.pinned (OpenSpec.ofChange txFeeGasPriceSpec)

/-- ITS FALSE NEIGHBOUR: 'it returns false'. Refute it at one input. -/
def txFeeGasPriceWrong : ChangeSpec := { name := "txFeeGasPrice", fn := fun _ => fun
  | [d1, d2, d3, d4, d5] => { results := [.lit (.bool false)], args := [d1, d2, d3, d4, d5] }
  | _ => none }
def TxFeeGasPriceWrongFalsely : Prop := txFeeGasPriceRow.holds Try.pinned (OpenSpec.ofChange txFeeGasPriceWrong)

/- THE SECOND FORM. 'bulk': how many values and letters a reading holds, each counted each time it is reached (what is shared counts as often as it is met; a slice's spare places count too). A statement '..UptoSaid' is the law's where the arguments, and the package variables that the reading takes, are together of bulk at most 1048576: NARROWER than '..Said'. Prove '..Said' where nothing that the law and all that it calls make is longer than what came in: it says more and counts as full. Else prove '..UptoSaid'. A law counts once. -/
mutual
def uptoBulk {H : Type} : DataW H → Nat
  | .lit (.string bytes) => bytes.length + 1
  | .lit _ => 1
  | .nil => 1
  | .ptr d => uptoBulk d + 1
  | .slice elems spare => uptoBulkAll elems + uptoBulkAll spare + 1
  | .agg parts => uptoBulkAll parts + 1
  | .iface _ d => uptoBulk d + 1
  | .map entries => uptoBulkEntries entries + 1
  | .held _ => 1
def uptoBulkAll {H : Type} : List (DataW H) → Nat
  | [] => 0
  | d :: r => uptoBulk d + uptoBulkAll r
def uptoBulkEntries {H : Type} : List (Lit × DataW H) → Nat
  | [] => 0
  | x :: r => uptoBulkEntry x + uptoBulkEntries r
def uptoBulkEntry {H : Type} : Lit × DataW H → Nat
  | (.string bytes, d) => bytes.length + uptoBulk d + 1
  | (_, d) => uptoBulk d + 1
 end
def uptoSmall : (H : Type) → List (DataW H) → Bool := fun _ ds => decide (uptoBulkAll ds ≤ 1048576)
def OpenSpec.upto (s : _root_.Go.ChangeSpec) : _root_.Go.OpenSpec := { _root_.Go.OpenSpec.ofChange s with cond := some uptoSmall }

/-- 'pontagelaw23.TxfeeGasPriceBounds', WHERE WHAT IT READS IS OF BULK AT MOST 1048576: true; the input reads as it did. -/
def txfeeGasPriceBoundsUptoRow : OpenClaim := { program := "ythnlgkfeopoohaa", sum := "6d5569c8f2c4910352a9aa525f7d7f8e0b0095170f80e282429cb68bc588db5f", func := "pontage/pontagelaw23.TxfeeGasPriceBounds", spec := "txfeeGasPriceBounds", inPlace := ["math/bits.Sub64", "math/bits.Add64"], apart := false, narrowed := true }
def TxfeeGasPriceBoundsUptoSaid : Prop := txfeeGasPriceBoundsUptoRow.holds Try.pinned (OpenSpec.upto txfeeGasPriceBoundsSpec)

/-- 'pontagelaw23.TxFeeSum', WHERE WHAT IT READS IS OF BULK AT MOST 1048576: true; the input reads as it did. -/
def txFeeSumUptoRow : OpenClaim := { program := "ythnlgkfeopoohaa", sum := "6d5569c8f2c4910352a9aa525f7d7f8e0b0095170f80e282429cb68bc588db5f", func := "pontage/pontagelaw23.TxFeeSum", spec := "txFeeSum", inPlace := ["math/bits.Add64", "math/bits.Sub64"], apart := false, narrowed := true }
def TxFeeSumUptoSaid : Prop := txFeeSumUptoRow.holds Try.pinned (OpenSpec.upto txFeeSumSpec)

/-- 'pontagelaw17.DebtQueueOrder', WHERE WHAT IT READS IS OF BULK AT MOST 1048576: true; the input reads as it did. -/
def debtQueueOrderUptoRow : OpenClaim := { program := "ythnlgkfeopoohaa", sum := "6d5569c8f2c4910352a9aa525f7d7f8e0b0095170f80e282429cb68bc588db5f", func := "pontage/pontagelaw17.DebtQueueOrder", spec := "debtQueueOrder", unfollowed := true, recurses := true, apart := false, narrowed := true }
def DebtQueueOrderUptoSaid : Prop := debtQueueOrderUptoRow.holds Try.pinned (OpenSpec.upto debtQueueOrderSpec)

/-- 'pontagelaw17.DebtQueueComplete', WHERE WHAT IT READS IS OF BULK AT MOST 1048576: true; the input reads as it did. -/
def debtQueueCompleteUptoRow : OpenClaim := { program := "ythnlgkfeopoohaa", sum := "6d5569c8f2c4910352a9aa525f7d7f8e0b0095170f80e282429cb68bc588db5f", func := "pontage/pontagelaw17.DebtQueueComplete", spec := "debtQueueComplete", unfollowed := true, recurses := true, apart := false, narrowed := true }
def DebtQueueCompleteUptoSaid : Prop := debtQueueCompleteUptoRow.holds Try.pinned (OpenSpec.upto debtQueueCompleteSpec)

/-- 'pontagelaw17.DebtQueueEmpty', WHERE WHAT IT READS IS OF BULK AT MOST 1048576: true; the input reads as it did. -/
def debtQueueEmptyUptoRow : OpenClaim := { program := "ythnlgkfeopoohaa", sum := "6d5569c8f2c4910352a9aa525f7d7f8e0b0095170f80e282429cb68bc588db5f", func := "pontage/pontagelaw17.DebtQueueEmpty", spec := "debtQueueEmpty", unfollowed := true, recurses := true, apart := false, narrowed := true }
def DebtQueueEmptyUptoSaid : Prop := debtQueueEmptyUptoRow.holds Try.pinned (OpenSpec.upto debtQueueEmptySpec)

/-- 'pontagelaw17.DebtqueuePermutation', WHERE WHAT IT READS IS OF BULK AT MOST 1048576: true; the input reads as it did. -/
def debtqueuePermutationUptoRow : OpenClaim := { program := "ythnlgkfeopoohaa", sum := "6d5569c8f2c4910352a9aa525f7d7f8e0b0095170f80e282429cb68bc588db5f", func := "pontage/pontagelaw17.DebtqueuePermutation", spec := "debtqueuePermutation", unfollowed := true, recurses := true, apart := false, narrowed := true }
def DebtqueuePermutationUptoSaid : Prop := debtqueuePermutationUptoRow.holds Try.pinned (OpenSpec.upto debtqueuePermutationSpec)

/-- 'pontagelaw23.TxFeeGasPrice', WHERE WHAT IT READS IS OF BULK AT MOST 1048576: true; the input reads as it did. -/
def txFeeGasPriceUptoRow : OpenClaim := { program := "ythnlgkfeopoohaa", sum := "6d5569c8f2c4910352a9aa525f7d7f8e0b0095170f80e282429cb68bc588db5f", func := "pontage/pontagelaw23.TxFeeGasPrice", spec := "txFeeGasPrice", inPlace := ["math/bits.Sub64", "math/bits.Add64"], apart := false, narrowed := true }
def TxFeeGasPriceUptoSaid : Prop := txFeeGasPriceUptoRow.holds Try.pinned (OpenSpec.upto txFeeGasPriceSpec)

end Rows
end Go.Proofs.Ythnlgkfeopoohaa
