/-
  No cell of these rows narrows 'for every input' (looked for: loops, veiled, ifaces, maps, wideKeys, modest, calm, conditions, laid).
  DERIVED. THE GIVEN ROWS OF THIS SEAT. 4 by the template 'for every input the law returns true; each argument reads behind the call as it read before'; 0 by the template 'total and deterministic' (their statements: YtpeicefbediffaaTotals.lean).
  GIVEN WITH THE SEED: the statements are not yours to turn. If you find one false, say at which input.
  Laid BY PROGRAM, IN A SANDBOX (cutbox-rows.mjs): the forced cells as the released guide's own fill.sh prints them over the translation 2a634e185cc88a09… (all of the seat's roots in one cut). By AI agents, Wed Nov 11 2026. No macro, syntax, notation, axiom, sorry.
-/
import Derived.Test.YtpeicefbediffaaChecked
import GoSem.Claim
import GoSem.ClaimJoined
import GoSem.ClaimMapViews
import Derived.JoinedTies
import Derived.KernelRfl
namespace Go.Proofs.Ytpeicefbediffaa
/- THE CELL 'sum', in the pinned program and in every row, IS THE sha256 OF THE DUMP (.gsa) THAT YtpeicefbediffaaProg.lean LOADS. Nothing in Lean hashes anything: it is a label: what it is worth is what the hold of that sum in a sandbox is worth. -/
noncomputable def Try.pinned : Pinned := { name := "ytpeicefbediffaa", sum := "2a634e185cc88a09c7062454af94c4adde00192dc6c3c28f1c30c1e242dbd07f", checked := Try.checked }
namespace Rows
def none {H : Type} : Left H := { results := [], args := [] }

/-- 'pontagelaw21.PricerPoolExhausted': WHATEVER THE INPUT: true; the input reads as it did. -/
def pricerPoolExhaustedSpec : ChangeSpec := { name := "pricerPoolExhausted", fn := fun _ => fun
  | [d1, d2] => { results := [.lit (.bool true)], args := [d1, d2] }
  | _ => none }
def pricerPoolExhaustedRow : OpenClaim := { program := "ytpeicefbediffaa", sum := "2a634e185cc88a09c7062454af94c4adde00192dc6c3c28f1c30c1e242dbd07f", func := "pontage/pontagelaw21.PricerPoolExhausted", spec := "pricerPoolExhausted", inPlace := ["math/bits.Add64", "slices.overlaps[pontage/api.Poster]", "math/bits.Sub64"], unfollowed := true, recurses := true, apart := false }
def PricerPoolExhaustedSaid : Prop := pricerPoolExhaustedRow.holds Try.pinned (OpenSpec.ofChange pricerPoolExhaustedSpec)

/-- ITS FALSE NEIGHBOUR: 'it returns false'. Refute it at one input. -/
def pricerPoolExhaustedWrong : ChangeSpec := { name := "pricerPoolExhausted", fn := fun _ => fun
  | [d1, d2] => { results := [.lit (.bool false)], args := [d1, d2] }
  | _ => none }
def PricerPoolExhaustedWrongFalsely : Prop := pricerPoolExhaustedRow.holds Try.pinned (OpenSpec.ofChange pricerPoolExhaustedWrong)

/-- 'pontagelaw21.PricerErrorOrder': WHATEVER THE INPUT: true; the input reads as it did. -/
def pricerErrorOrderSpec : ChangeSpec := { name := "pricerErrorOrder", fn := fun _ => fun
  | [d1, d2, d3, d4, d5] => { results := [.lit (.bool true)], args := [d1, d2, d3, d4, d5] }
  | _ => none }
def pricerErrorOrderRow : OpenClaim := { program := "ytpeicefbediffaa", sum := "2a634e185cc88a09c7062454af94c4adde00192dc6c3c28f1c30c1e242dbd07f", func := "pontage/pontagelaw21.PricerErrorOrder", spec := "pricerErrorOrder", inPlace := ["math/bits.Add64", "slices.overlaps[pontage/api.Poster]", "math/bits.Sub64"], unfollowed := true, recurses := true, apart := false }
def PricerErrorOrderSaid : Prop := pricerErrorOrderRow.holds Try.pinned (OpenSpec.ofChange pricerErrorOrderSpec)

/-- ITS FALSE NEIGHBOUR: 'it returns false'. Refute it at one input. -/
def pricerErrorOrderWrong : ChangeSpec := { name := "pricerErrorOrder", fn := fun _ => fun
  | [d1, d2, d3, d4, d5] => { results := [.lit (.bool false)], args := [d1, d2, d3, d4, d5] }
  | _ => none }
def PricerErrorOrderWrongFalsely : Prop := pricerErrorOrderRow.holds Try.pinned (OpenSpec.ofChange pricerErrorOrderWrong)

/-- 'pontagelaw21.PricerUnitsConserved': WHATEVER THE INPUT: true; the input reads as it did. -/
def pricerUnitsConservedSpec : ChangeSpec := { name := "pricerUnitsConserved", fn := fun _ => fun
  | [d1, d2] => { results := [.lit (.bool true)], args := [d1, d2] }
  | _ => none }
def pricerUnitsConservedRow : OpenClaim := { program := "ytpeicefbediffaa", sum := "2a634e185cc88a09c7062454af94c4adde00192dc6c3c28f1c30c1e242dbd07f", func := "pontage/pontagelaw21.PricerUnitsConserved", spec := "pricerUnitsConserved", inPlace := ["math/bits.Add64", "slices.overlaps[pontage/api.Poster]", "math/bits.Sub64"], unfollowed := true, recurses := true, apart := false }
def PricerUnitsConservedSaid : Prop := pricerUnitsConservedRow.holds Try.pinned (OpenSpec.ofChange pricerUnitsConservedSpec)

/-- ITS FALSE NEIGHBOUR: 'it returns false'. Refute it at one input. -/
def pricerUnitsConservedWrong : ChangeSpec := { name := "pricerUnitsConserved", fn := fun _ => fun
  | [d1, d2] => { results := [.lit (.bool false)], args := [d1, d2] }
  | _ => none }
def PricerUnitsConservedWrongFalsely : Prop := pricerUnitsConservedRow.holds Try.pinned (OpenSpec.ofChange pricerUnitsConservedWrong)

/-- 'pontagelaw21.PricerAccounting': WHATEVER THE INPUT: true; the input reads as it did. -/
def pricerAccountingSpec : ChangeSpec := { name := "pricerAccounting", fn := fun _ => fun
  | [d1, d2] => { results := [.lit (.bool true)], args := [d1, d2] }
  | _ => none }
def pricerAccountingRow : OpenClaim := { program := "ytpeicefbediffaa", sum := "2a634e185cc88a09c7062454af94c4adde00192dc6c3c28f1c30c1e242dbd07f", func := "pontage/pontagelaw21.PricerAccounting", spec := "pricerAccounting", inPlace := ["math/bits.Add64", "slices.overlaps[pontage/api.Poster]", "math/bits.Sub64"], unfollowed := true, recurses := true, apart := false }
def PricerAccountingSaid : Prop := pricerAccountingRow.holds Try.pinned (OpenSpec.ofChange pricerAccountingSpec)

/-- ITS FALSE NEIGHBOUR: 'it returns false'. Refute it at one input. -/
def pricerAccountingWrong : ChangeSpec := { name := "pricerAccounting", fn := fun _ => fun
  | [d1, d2] => { results := [.lit (.bool false)], args := [d1, d2] }
  | _ => none }
def PricerAccountingWrongFalsely : Prop := pricerAccountingRow.holds Try.pinned (OpenSpec.ofChange pricerAccountingWrong)

/- THE SECOND FORM. 'bulk': how many values and letters a reading holds, each counted each time it is reached (what is shared counts as often as it is met; a slice's spare places count too). A statement '..UptoSaid' is the law's where the arguments, and the package variables that the reading takes, are together of bulk at most 1048576: NARROWER than '..Said'. Prove '..Said' where nothing that the law and all that it calls make is longer than what came in: it says more and counts as full. Else prove '..UptoSaid'. A law counts once. -/
mutual
def uptoBulk {H : Type} : DataW H → Nat
  | .lit (.string bytes) => bytes.length + 1
  | .lit _ => 1
  | .nil => 1
  | .ptr d => uptoBulk d + 1
  | .slice elems spare => uptoBulkAll elems + uptoBulkAll spare + 1
  | .agg parts => uptoBulkAll parts + 1
  | .iface _ d => uptoBulk d + 1
  | .map entries => uptoBulkEntries entries + 1
  | .held _ => 1
def uptoBulkAll {H : Type} : List (DataW H) → Nat
  | [] => 0
  | d :: r => uptoBulk d + uptoBulkAll r
def uptoBulkEntries {H : Type} : List (Lit × DataW H) → Nat
  | [] => 0
  | x :: r => uptoBulkEntry x + uptoBulkEntries r
def uptoBulkEntry {H : Type} : Lit × DataW H → Nat
  | (.string bytes, d) => bytes.length + uptoBulk d + 1
  | (_, d) => uptoBulk d + 1
 end
def uptoSmall : (H : Type) → List (DataW H) → Bool := fun _ ds => decide (uptoBulkAll ds ≤ 1048576)
def OpenSpec.upto (s : _root_.Go.ChangeSpec) : _root_.Go.OpenSpec := { _root_.Go.OpenSpec.ofChange s with cond := some uptoSmall }

/-- 'pontagelaw21.PricerPoolExhausted', WHERE WHAT IT READS IS OF BULK AT MOST 1048576: true; the input reads as it did. -/
def pricerPoolExhaustedUptoRow : OpenClaim := { program := "ytpeicefbediffaa", sum := "2a634e185cc88a09c7062454af94c4adde00192dc6c3c28f1c30c1e242dbd07f", func := "pontage/pontagelaw21.PricerPoolExhausted", spec := "pricerPoolExhausted", inPlace := ["math/bits.Add64", "slices.overlaps[pontage/api.Poster]", "math/bits.Sub64"], unfollowed := true, recurses := true, apart := false, narrowed := true }
def PricerPoolExhaustedUptoSaid : Prop := pricerPoolExhaustedUptoRow.holds Try.pinned (OpenSpec.upto pricerPoolExhaustedSpec)

/-- 'pontagelaw21.PricerErrorOrder', WHERE WHAT IT READS IS OF BULK AT MOST 1048576: true; the input reads as it did. -/
def pricerErrorOrderUptoRow : OpenClaim := { program := "ytpeicefbediffaa", sum := "2a634e185cc88a09c7062454af94c4adde00192dc6c3c28f1c30c1e242dbd07f", func := "pontage/pontagelaw21.PricerErrorOrder", spec := "pricerErrorOrder", inPlace := ["math/bits.Add64", "slices.overlaps[pontage/api.Poster]", "math/bits.Sub64"], unfollowed := true, recurses := true, apart := false, narrowed := true }
def PricerErrorOrderUptoSaid : Prop := pricerErrorOrderUptoRow.holds Try.pinned (OpenSpec.upto pricerErrorOrderSpec)

/-- 'pontagelaw21.PricerUnitsConserved', WHERE WHAT IT READS IS OF BULK AT MOST 1048576: true; the input reads as it did. -/
def pricerUnitsConservedUptoRow : OpenClaim := { program := "ytpeicefbediffaa", sum := "2a634e185cc88a09c7062454af94c4adde00192dc6c3c28f1c30c1e242dbd07f", func := "pontage/pontagelaw21.PricerUnitsConserved", spec := "pricerUnitsConserved", inPlace := ["math/bits.Add64", "slices.overlaps[pontage/api.Poster]", "math/bits.Sub64"], unfollowed := true, recurses := true, apart := false, narrowed := true }
def PricerUnitsConservedUptoSaid : Prop := pricerUnitsConservedUptoRow.holds Try.pinned (OpenSpec.upto pricerUnitsConservedSpec)

/-- 'pontagelaw21.PricerAccounting', WHERE WHAT IT READS IS OF BULK AT MOST 1048576: true; the input reads as it did. -/
def pricerAccountingUptoRow : OpenClaim := { program := "ytpeicefbediffaa", sum := "2a634e185cc88a09c7062454af94c4adde00192dc6c3c28f1c30c1e242dbd07f", func := "pontage/pontagelaw21.PricerAccounting", spec := "pricerAccounting", inPlace := ["math/bits.Add64", "slices.overlaps[pontage/api.Poster]", "math/bits.Sub64"], unfollowed := true, recurses := true, apart := false, narrowed := true }
def PricerAccountingUptoSaid : Prop := pricerAccountingUptoRow.holds Try.pinned (OpenSpec.upto pricerAccountingSpec)

end Rows
end Go.Proofs.Ytpeicefbediffaa
