/-
  No cell of these rows narrows 'for every input' (looked for: loops, veiled, ifaces, maps, wideKeys, modest, calm, conditions, laid).
  DERIVED. THE GIVEN ROWS OF THIS SEAT. 9 by the template 'for every input the law returns true; each argument reads behind the call as it read before'; 0 by the template 'total and deterministic' (their statements: YtmjjppoaianfmaaTotals.lean).
  GIVEN WITH THE SEED: the statements are not yours to turn. If you find one false, say at which input.
  Laid BY PROGRAM, IN A SANDBOX (cutbox-rows.mjs): the forced cells as the released guide's own fill.sh prints them over the translation e563e0d4cc6cf0bd… (all of the seat's roots in one cut). By AI agents, Wed Nov 11 2026. No macro, syntax, notation, axiom, sorry.
-/
import Derived.Test.YtmjjppoaianfmaaChecked
import GoSem.Claim
import GoSem.ClaimJoined
import GoSem.ClaimMapViews
import Derived.JoinedTies
import Derived.KernelRfl
namespace Go.Proofs.Ytmjjppoaianfmaa
/- THE CELL 'sum', in the pinned program and in every row, IS THE sha256 OF THE DUMP (.gsa) THAT YtmjjppoaianfmaaProg.lean LOADS. Nothing in Lean hashes anything: it is a label: what it is worth is what the hold of that sum in a sandbox is worth. -/
noncomputable def Try.pinned : Pinned := { name := "ytmjjppoaianfmaa", sum := "e563e0d4cc6cf0bdd665f923a96997ec126dcef0d220d9964198ecfdd1c9a39c", checked := Try.checked }
namespace Rows
def none {H : Type} : Left H := { results := [], args := [] }

/-- 'pontagelaw19.L1PriceDelta': WHATEVER THE INPUT: true; the input reads as it did. -/
def l1PriceDeltaSpec : ChangeSpec := { name := "l1PriceDelta", fn := fun _ => fun
  | [d1, d2, d3, d4, d5, d6, d7] => { results := [.lit (.bool true)], args := [d1, d2, d3, d4, d5, d6, d7] }
  | _ => none }
def l1PriceDeltaRow : OpenClaim := { program := "ytmjjppoaianfmaa", sum := "e563e0d4cc6cf0bdd665f923a96997ec126dcef0d220d9964198ecfdd1c9a39c", func := "pontage/pontagelaw19.L1PriceDelta", spec := "l1PriceDelta", inPlace := ["math/bits.Sub64", "math/bits.Add64"], apart := false }
def L1PriceDeltaSaid : Prop := l1PriceDeltaRow.holds Try.pinned (OpenSpec.ofChange l1PriceDeltaSpec)

/-- ITS FALSE NEIGHBOUR: 'it returns false'. Refute it at one input. -/
def l1PriceDeltaWrong : ChangeSpec := { name := "l1PriceDelta", fn := fun _ => fun
  | [d1, d2, d3, d4, d5, d6, d7] => { results := [.lit (.bool false)], args := [d1, d2, d3, d4, d5, d6, d7] }
  | _ => none }
def L1PriceDeltaWrongFalsely : Prop := l1PriceDeltaRow.holds Try.pinned (OpenSpec.ofChange l1PriceDeltaWrong)

/-- 'pontagelaw19.L1PriceNext': WHATEVER THE INPUT: true; the input reads as it did. -/
def l1PriceNextSpec : ChangeSpec := { name := "l1PriceNext", fn := fun _ => fun
  | [d1, d2, d3, d4, d5, d6, d7, d8, d9, d10, d11] => { results := [.lit (.bool true)], args := [d1, d2, d3, d4, d5, d6, d7, d8, d9, d10, d11] }
  | _ => none }
def l1PriceNextRow : OpenClaim := { program := "ytmjjppoaianfmaa", sum := "e563e0d4cc6cf0bdd665f923a96997ec126dcef0d220d9964198ecfdd1c9a39c", func := "pontage/pontagelaw19.L1PriceNext", spec := "l1PriceNext", inPlace := ["math/bits.Sub64", "math/bits.Add64"], apart := false }
def L1PriceNextSaid : Prop := l1PriceNextRow.holds Try.pinned (OpenSpec.ofChange l1PriceNextSpec)

/-- ITS FALSE NEIGHBOUR: 'it returns false'. Refute it at one input. -/
def l1PriceNextWrong : ChangeSpec := { name := "l1PriceNext", fn := fun _ => fun
  | [d1, d2, d3, d4, d5, d6, d7, d8, d9, d10, d11] => { results := [.lit (.bool false)], args := [d1, d2, d3, d4, d5, d6, d7, d8, d9, d10, d11] }
  | _ => none }
def L1PriceNextWrongFalsely : Prop := l1PriceNextRow.holds Try.pinned (OpenSpec.ofChange l1PriceNextWrong)

/-- 'pontagelaw19.L1PriceUnchanged': WHATEVER THE INPUT: true; the input reads as it did. -/
def l1PriceUnchangedSpec : ChangeSpec := { name := "l1PriceUnchanged", fn := fun _ => fun
  | [d1, d2, d3, d4, d5] => { results := [.lit (.bool true)], args := [d1, d2, d3, d4, d5] }
  | _ => none }
def l1PriceUnchangedRow : OpenClaim := { program := "ytmjjppoaianfmaa", sum := "e563e0d4cc6cf0bdd665f923a96997ec126dcef0d220d9964198ecfdd1c9a39c", func := "pontage/pontagelaw19.L1PriceUnchanged", spec := "l1PriceUnchanged", inPlace := ["math/bits.Sub64", "math/bits.Add64"], apart := false }
def L1PriceUnchangedSaid : Prop := l1PriceUnchangedRow.holds Try.pinned (OpenSpec.ofChange l1PriceUnchangedSpec)

/-- ITS FALSE NEIGHBOUR: 'it returns false'. Refute it at one input. -/
def l1PriceUnchangedWrong : ChangeSpec := { name := "l1PriceUnchanged", fn := fun _ => fun
  | [d1, d2, d3, d4, d5] => { results := [.lit (.bool false)], args := [d1, d2, d3, d4, d5] }
  | _ => none }
def L1PriceUnchangedWrongFalsely : Prop := l1PriceUnchangedRow.holds Try.pinned (OpenSpec.ofChange l1PriceUnchangedWrong)

/-- 'pontagelaw19.L1PriceDirection': WHATEVER THE INPUT: true; the input reads as it did. -/
def l1PriceDirectionSpec : ChangeSpec := { name := "l1PriceDirection", fn := fun _ => fun
  | [d1, d2, d3, d4] => { results := [.lit (.bool true)], args := [d1, d2, d3, d4] }
  | _ => none }
def l1PriceDirectionRow : OpenClaim := { program := "ytmjjppoaianfmaa", sum := "e563e0d4cc6cf0bdd665f923a96997ec126dcef0d220d9964198ecfdd1c9a39c", func := "pontage/pontagelaw19.L1PriceDirection", spec := "l1PriceDirection", inPlace := ["math/bits.Sub64", "math/bits.Add64"], apart := false }
def L1PriceDirectionSaid : Prop := l1PriceDirectionRow.holds Try.pinned (OpenSpec.ofChange l1PriceDirectionSpec)

/-- ITS FALSE NEIGHBOUR: 'it returns false'. Refute it at one input. -/
def l1PriceDirectionWrong : ChangeSpec := { name := "l1PriceDirection", fn := fun _ => fun
  | [d1, d2, d3, d4] => { results := [.lit (.bool false)], args := [d1, d2, d3, d4] }
  | _ => none }
def L1PriceDirectionWrongFalsely : Prop := l1PriceDirectionRow.holds Try.pinned (OpenSpec.ofChange l1PriceDirectionWrong)

/-- 'pontagelaw19.L1PriceSurplus': WHATEVER THE INPUT: true; the input reads as it did. -/
def l1PriceSurplusSpec : ChangeSpec := { name := "l1PriceSurplus", fn := fun _ => fun
  | [d1, d2] => { results := [.lit (.bool true)], args := [d1, d2] }
  | _ => none }
def l1PriceSurplusRow : OpenClaim := { program := "ytmjjppoaianfmaa", sum := "e563e0d4cc6cf0bdd665f923a96997ec126dcef0d220d9964198ecfdd1c9a39c", func := "pontage/pontagelaw19.L1PriceSurplus", spec := "l1PriceSurplus", inPlace := ["math/bits.Sub64", "math/bits.Add64"], apart := false }
def L1PriceSurplusSaid : Prop := l1PriceSurplusRow.holds Try.pinned (OpenSpec.ofChange l1PriceSurplusSpec)

/-- ITS FALSE NEIGHBOUR: 'it returns false'. Refute it at one input. -/
def l1PriceSurplusWrong : ChangeSpec := { name := "l1PriceSurplus", fn := fun _ => fun
  | [d1, d2] => { results := [.lit (.bool false)], args := [d1, d2] }
  | _ => none }
def L1PriceSurplusWrongFalsely : Prop := l1PriceSurplusRow.holds Try.pinned (OpenSpec.ofChange l1PriceSurplusWrong)

/-- 'pontagelaw19.L1priceDamped': WHATEVER THE INPUT: true; the input reads as it did. -/
def l1priceDampedSpec : ChangeSpec := { name := "l1priceDamped", fn := fun _ => fun
  | [d1, d2, d3, d4] => { results := [.lit (.bool true)], args := [d1, d2, d3, d4] }
  | _ => none }
def l1priceDampedRow : OpenClaim := { program := "ytmjjppoaianfmaa", sum := "e563e0d4cc6cf0bdd665f923a96997ec126dcef0d220d9964198ecfdd1c9a39c", func := "pontage/pontagelaw19.L1priceDamped", spec := "l1priceDamped", inPlace := ["math/bits.Add64", "math/bits.Sub64"], apart := false }
def L1priceDampedSaid : Prop := l1priceDampedRow.holds Try.pinned (OpenSpec.ofChange l1priceDampedSpec)

/-- ITS FALSE NEIGHBOUR: 'it returns false'. Refute it at one input. -/
def l1priceDampedWrong : ChangeSpec := { name := "l1priceDamped", fn := fun _ => fun
  | [d1, d2, d3, d4] => { results := [.lit (.bool false)], args := [d1, d2, d3, d4] }
  | _ => none }
def L1priceDampedWrongFalsely : Prop := l1priceDampedRow.holds Try.pinned (OpenSpec.ofChange l1priceDampedWrong)

/-- 'pontagelaw23.TxFeeCompute': WHATEVER THE INPUT: true; the input reads as it did. -/
def txFeeComputeSpec : ChangeSpec := { name := "txFeeCompute", fn := fun _ => fun
  | [d1, d2, d3, d4, d5, d6] => { results := [.lit (.bool true)], args := [d1, d2, d3, d4, d5, d6] }
  | _ => none }
def txFeeComputeRow : OpenClaim := { program := "ytmjjppoaianfmaa", sum := "e563e0d4cc6cf0bdd665f923a96997ec126dcef0d220d9964198ecfdd1c9a39c", func := "pontage/pontagelaw23.TxFeeCompute", spec := "txFeeCompute", inPlace := ["math/bits.Sub64", "math/bits.Add64"], apart := false }
def TxFeeComputeSaid : Prop := txFeeComputeRow.holds Try.pinned (OpenSpec.ofChange txFeeComputeSpec)

/-- ITS FALSE NEIGHBOUR: 'it returns false'. Refute it at one input. -/
def txFeeComputeWrong : ChangeSpec := { name := "txFeeCompute", fn := fun _ => fun
  | [d1, d2, d3, d4, d5, d6] => { results := [.lit (.bool false)], args := [d1, d2, d3, d4, d5, d6] }
  | _ => none }
def TxFeeComputeWrongFalsely : Prop := txFeeComputeRow.holds Try.pinned (OpenSpec.ofChange txFeeComputeWrong)

/-- 'pontagelaw23.TxFeeShares': WHATEVER THE INPUT: true; the input reads as it did. -/
def txFeeSharesSpec : ChangeSpec := { name := "txFeeShares", fn := fun _ => fun
  | [d1, d2] => { results := [.lit (.bool true)], args := [d1, d2] }
  | _ => none }
def txFeeSharesRow : OpenClaim := { program := "ytmjjppoaianfmaa", sum := "e563e0d4cc6cf0bdd665f923a96997ec126dcef0d220d9964198ecfdd1c9a39c", func := "pontage/pontagelaw23.TxFeeShares", spec := "txFeeShares", inPlace := ["math/bits.Sub64", "math/bits.Add64"], apart := false }
def TxFeeSharesSaid : Prop := txFeeSharesRow.holds Try.pinned (OpenSpec.ofChange txFeeSharesSpec)

/-- ITS FALSE NEIGHBOUR: 'it returns false'. Refute it at one input. -/
def txFeeSharesWrong : ChangeSpec := { name := "txFeeShares", fn := fun _ => fun
  | [d1, d2] => { results := [.lit (.bool false)], args := [d1, d2] }
  | _ => none }
def TxFeeSharesWrongFalsely : Prop := txFeeSharesRow.holds Try.pinned (OpenSpec.ofChange txFeeSharesWrong)

/-- 'pontagelaw23.TxFeeTotal': WHATEVER THE INPUT: true; the input reads as it did. -/
def txFeeTotalSpec : ChangeSpec := { name := "txFeeTotal", fn := fun _ => fun
  | [d1, d2] => { results := [.lit (.bool true)], args := [d1, d2] }
  | _ => none }
def txFeeTotalRow : OpenClaim := { program := "ytmjjppoaianfmaa", sum := "e563e0d4cc6cf0bdd665f923a96997ec126dcef0d220d9964198ecfdd1c9a39c", func := "pontage/pontagelaw23.TxFeeTotal", spec := "txFeeTotal", inPlace := ["math/bits.Sub64", "math/bits.Add64"], apart := false }
def TxFeeTotalSaid : Prop := txFeeTotalRow.holds Try.pinned (OpenSpec.ofChange txFeeTotalSpec)

/-- ITS FALSE NEIGHBOUR: 'it returns false'. Refute it at one input. -/
def txFeeTotalWrong : ChangeSpec := { name := "txFeeTotal", fn := fun _ => fun
  | [d1, d2] => { results := [.lit (.bool false)], args := [d1, d2] }
  | _ => none }
def TxFeeTotalWrongFalsely : Prop := txFeeTotalRow.holds Try.pinned (OpenSpec.ofChange txFeeTotalWrong)

/- THE SECOND FORM. 'bulk': how many values and letters a reading holds, each counted each time it is reached (what is shared counts as often as it is met; a slice's spare places count too). A statement '..UptoSaid' is the law's where the arguments, and the package variables that the reading takes, are together of bulk at most 1048576: NARROWER than '..Said'. Prove '..Said' where nothing that the law and all that it calls make is longer than what came in: it says more and counts as full. Else prove '..UptoSaid'. A law counts once. -/
mutual
def uptoBulk {H : Type} : DataW H → Nat
  | .lit (.string bytes) => bytes.length + 1
  | .lit _ => 1
  | .nil => 1
  | .ptr d => uptoBulk d + 1
  | .slice elems spare => uptoBulkAll elems + uptoBulkAll spare + 1
  | .agg parts => uptoBulkAll parts + 1
  | .iface _ d => uptoBulk d + 1
  | .map entries => uptoBulkEntries entries + 1
  | .held _ => 1
def uptoBulkAll {H : Type} : List (DataW H) → Nat
  | [] => 0
  | d :: r => uptoBulk d + uptoBulkAll r
def uptoBulkEntries {H : Type} : List (Lit × DataW H) → Nat
  | [] => 0
  | x :: r => uptoBulkEntry x + uptoBulkEntries r
def uptoBulkEntry {H : Type} : Lit × DataW H → Nat
  | (.string bytes, d) => bytes.length + uptoBulk d + 1
  | (_, d) => uptoBulk d + 1
 end
def uptoSmall : (H : Type) → List (DataW H) → Bool := fun _ ds => decide (uptoBulkAll ds ≤ 1048576)
def OpenSpec.upto (s : _root_.Go.ChangeSpec) : _root_.Go.OpenSpec := { _root_.Go.OpenSpec.ofChange s with cond := some uptoSmall }

/-- 'pontagelaw19.L1PriceDelta', WHERE WHAT IT READS IS OF BULK AT MOST 1048576: true; the input reads as it did. -/
def l1PriceDeltaUptoRow : OpenClaim := { program := "ytmjjppoaianfmaa", sum := "e563e0d4cc6cf0bdd665f923a96997ec126dcef0d220d9964198ecfdd1c9a39c", func := "pontage/pontagelaw19.L1PriceDelta", spec := "l1PriceDelta", inPlace := ["math/bits.Sub64", "math/bits.Add64"], apart := false, narrowed := true }
def L1PriceDeltaUptoSaid : Prop := l1PriceDeltaUptoRow.holds Try.pinned (OpenSpec.upto l1PriceDeltaSpec)

/-- 'pontagelaw19.L1PriceNext', WHERE WHAT IT READS IS OF BULK AT MOST 1048576: true; the input reads as it did. -/
def l1PriceNextUptoRow : OpenClaim := { program := "ytmjjppoaianfmaa", sum := "e563e0d4cc6cf0bdd665f923a96997ec126dcef0d220d9964198ecfdd1c9a39c", func := "pontage/pontagelaw19.L1PriceNext", spec := "l1PriceNext", inPlace := ["math/bits.Sub64", "math/bits.Add64"], apart := false, narrowed := true }
def L1PriceNextUptoSaid : Prop := l1PriceNextUptoRow.holds Try.pinned (OpenSpec.upto l1PriceNextSpec)

/-- 'pontagelaw19.L1PriceUnchanged', WHERE WHAT IT READS IS OF BULK AT MOST 1048576: true; the input reads as it did. -/
def l1PriceUnchangedUptoRow : OpenClaim := { program := "ytmjjppoaianfmaa", sum := "e563e0d4cc6cf0bdd665f923a96997ec126dcef0d220d9964198ecfdd1c9a39c", func := "pontage/pontagelaw19.L1PriceUnchanged", spec := "l1PriceUnchanged", inPlace := ["math/bits.Sub64", "math/bits.Add64"], apart := false, narrowed := true }
def L1PriceUnchangedUptoSaid : Prop := l1PriceUnchangedUptoRow.holds Try.pinned (OpenSpec.upto l1PriceUnchangedSpec)

/-- 'pontagelaw19.L1PriceDirection', WHERE WHAT IT READS IS OF BULK AT MOST 1048576: true; the input reads as it did. -/
def l1PriceDirectionUptoRow : OpenClaim := { program := "ytmjjppoaianfmaa", sum := "e563e0d4cc6cf0bdd665f923a96997ec126dcef0d220d9964198ecfdd1c9a39c", func := "pontage/pontagelaw19.L1PriceDirection", spec := "l1PriceDirection", inPlace := ["math/bits.Sub64", "math/bits.Add64"], apart := false, narrowed := true }
def L1PriceDirectionUptoSaid : Prop := l1PriceDirectionUptoRow.holds Try.pinned (OpenSpec.upto l1PriceDirectionSpec)

/-- 'pontagelaw19.L1PriceSurplus', WHERE WHAT IT READS IS OF BULK AT MOST 1048576: true; the input reads as it did. -/
def l1PriceSurplusUptoRow : OpenClaim := { program := "ytmjjppoaianfmaa", sum := "e563e0d4cc6cf0bdd665f923a96997ec126dcef0d220d9964198ecfdd1c9a39c", func := "pontage/pontagelaw19.L1PriceSurplus", spec := "l1PriceSurplus", inPlace := ["math/bits.Sub64", "math/bits.Add64"], apart := false, narrowed := true }
def L1PriceSurplusUptoSaid : Prop := l1PriceSurplusUptoRow.holds Try.pinned (OpenSpec.upto l1PriceSurplusSpec)

/-- 'pontagelaw19.L1priceDamped', WHERE WHAT IT READS IS OF BULK AT MOST 1048576: true; the input reads as it did. -/
def l1priceDampedUptoRow : OpenClaim := { program := "ytmjjppoaianfmaa", sum := "e563e0d4cc6cf0bdd665f923a96997ec126dcef0d220d9964198ecfdd1c9a39c", func := "pontage/pontagelaw19.L1priceDamped", spec := "l1priceDamped", inPlace := ["math/bits.Add64", "math/bits.Sub64"], apart := false, narrowed := true }
def L1priceDampedUptoSaid : Prop := l1priceDampedUptoRow.holds Try.pinned (OpenSpec.upto l1priceDampedSpec)

/-- 'pontagelaw23.TxFeeCompute', WHERE WHAT IT READS IS OF BULK AT MOST 1048576: true; the input reads as it did. -/
def txFeeComputeUptoRow : OpenClaim := { program := "ytmjjppoaianfmaa", sum := "e563e0d4cc6cf0bdd665f923a96997ec126dcef0d220d9964198ecfdd1c9a39c", func := "pontage/pontagelaw23.TxFeeCompute", spec := "txFeeCompute", inPlace := ["math/bits.Sub64", "math/bits.Add64"], apart := false, narrowed := true }
def TxFeeComputeUptoSaid : Prop := txFeeComputeUptoRow.holds Try.pinned (OpenSpec.upto txFeeComputeSpec)

/-- 'pontagelaw23.TxFeeShares', WHERE WHAT IT READS IS OF BULK AT MOST 1048576: true; the input reads as it did. -/
def txFeeSharesUptoRow : OpenClaim := { program := "ytmjjppoaianfmaa", sum := "e563e0d4cc6cf0bdd665f923a96997ec126dcef0d220d9964198ecfdd1c9a39c", func := "pontage/pontagelaw23.TxFeeShares", spec := "txFeeShares", inPlace := ["math/bits.Sub64", "math/bits.Add64"], apart := false, narrowed := true }
def TxFeeSharesUptoSaid : Prop := txFeeSharesUptoRow.holds Try.pinned (OpenSpec.upto txFeeSharesSpec)

/-- 'pontagelaw23.TxFeeTotal', WHERE WHAT IT READS IS OF BULK AT MOST 1048576: true; the input reads as it did. -/
def txFeeTotalUptoRow : OpenClaim := { program := "ytmjjppoaianfmaa", sum := "e563e0d4cc6cf0bdd665f923a96997ec126dcef0d220d9964198ecfdd1c9a39c", func := "pontage/pontagelaw23.TxFeeTotal", spec := "txFeeTotal", inPlace := ["math/bits.Sub64", "math/bits.Add64"], apart := false, narrowed := true }
def TxFeeTotalUptoSaid : Prop := txFeeTotalUptoRow.holds Try.pinned (OpenSpec.upto txFeeTotalSpec)

end Rows
end Go.Proofs.Ytmjjppoaianfmaa
