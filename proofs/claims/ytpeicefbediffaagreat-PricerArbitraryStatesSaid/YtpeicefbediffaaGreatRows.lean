/-
  No cell of these rows narrows 'for every input' (looked for: loops, veiled, ifaces, maps, wideKeys, modest, calm, conditions, laid).
  DERIVED. THE GIVEN ROWS OF THIS SEAT. 2 by the template 'for every input the law returns true; each argument reads behind the call as it read before'; 0 by the template 'total and deterministic' (their statements: YtpeicefbediffaaGreatTotals.lean).
  GIVEN WITH THE SEED: the statements are not yours to turn. If you find one false, say at which input.
  Laid BY PROGRAM, IN A SANDBOX (cutbox-rows.mjs): the forced cells as the released guide's own fill.sh prints them over the translation f657e6831ad566c5… (all of the seat's roots in one cut). By AI agents, Wed Nov 11 2026. No macro, syntax, notation, axiom, sorry.
-/
import Derived.Test.YtpeicefbediffaaGreatChecked
import GoSem.Claim
import GoSem.ClaimJoined
import GoSem.ClaimMapViews
import Derived.JoinedTies
import Derived.KernelRfl
namespace Go.Proofs.YtpeicefbediffaaGreat
/- THE CELL 'sum', in the pinned program and in every row, IS THE sha256 OF THE DUMP (.gsa) THAT YtpeicefbediffaaGreatProg.lean LOADS. Nothing in Lean hashes anything: it is a label: what it is worth is what the hold of that sum in a sandbox is worth. -/
noncomputable def Tryz.pinned : Pinned := { name := "ytpeicefbediffaagreat", sum := "f657e6831ad566c5caf3e8debff53ca0f7ec3bdfac16c879f3173a1a106c49ba", checked := Tryz.checked }
namespace Rows
def none {H : Type} : Left H := { results := [], args := [] }

/-- 'pontagelaw21.PricerCalls': WHATEVER THE INPUT: true; the input reads as it did. -/
def pricerCallsSpec : ChangeSpec := { name := "pricerCalls", fn := fun _ => fun
  | [d1, d2, d3] => { results := [.lit (.bool true)], args := [d1, d2, d3] }
  | _ => none }
def pricerCallsRow : OpenClaim := { program := "ytpeicefbediffaagreat", sum := "f657e6831ad566c5caf3e8debff53ca0f7ec3bdfac16c879f3173a1a106c49ba", func := "pontage/pontagelaw21.PricerCalls", spec := "pricerCalls", inPlace := ["math/bits.Add64", "slices.overlaps[pontage/api.Poster]", "math/bits.Sub64"], unfollowed := true, recurses := true, apart := false }
def PricerCallsSaid : Prop := pricerCallsRow.holds Tryz.pinned (OpenSpec.ofChange pricerCallsSpec)

/-- ITS FALSE NEIGHBOUR: 'it returns false'. Refute it at one input. -/
def pricerCallsWrong : ChangeSpec := { name := "pricerCalls", fn := fun _ => fun
  | [d1, d2, d3] => { results := [.lit (.bool false)], args := [d1, d2, d3] }
  | _ => none }
def PricerCallsWrongFalsely : Prop := pricerCallsRow.holds Tryz.pinned (OpenSpec.ofChange pricerCallsWrong)

/-- 'pontagelaw21.PricerArbitraryStates': WHATEVER THE INPUT: true; the input reads as it did. -/
def pricerArbitraryStatesSpec : ChangeSpec := { name := "pricerArbitraryStates", fn := fun _ => fun
  | [d1, d2, d3, d4, d5, d6, d7, d8] => { results := [.lit (.bool true)], args := [d1, d2, d3, d4, d5, d6, d7, d8] }
  | _ => none }
def pricerArbitraryStatesRow : OpenClaim := { program := "ytpeicefbediffaagreat", sum := "f657e6831ad566c5caf3e8debff53ca0f7ec3bdfac16c879f3173a1a106c49ba", func := "pontage/pontagelaw21.PricerArbitraryStates", spec := "pricerArbitraryStates", inPlace := ["math/bits.Add64", "slices.overlaps[pontage/api.Poster]", "math/bits.Sub64"], unfollowed := true, recurses := true, apart := false }
def PricerArbitraryStatesSaid : Prop := pricerArbitraryStatesRow.holds Tryz.pinned (OpenSpec.ofChange pricerArbitraryStatesSpec)

/-- ITS FALSE NEIGHBOUR: 'it returns false'. Refute it at one input. -/
def pricerArbitraryStatesWrong : ChangeSpec := { name := "pricerArbitraryStates", fn := fun _ => fun
  | [d1, d2, d3, d4, d5, d6, d7, d8] => { results := [.lit (.bool false)], args := [d1, d2, d3, d4, d5, d6, d7, d8] }
  | _ => none }
def PricerArbitraryStatesWrongFalsely : Prop := pricerArbitraryStatesRow.holds Tryz.pinned (OpenSpec.ofChange pricerArbitraryStatesWrong)

/- THE SECOND FORM. 'bulk': how many values and letters a reading holds, each counted each time it is reached (what is shared counts as often as it is met; a slice's spare places count too). A statement '..UptoSaid' is the law's where the arguments, and the package variables that the reading takes, are together of bulk at most 1048576: NARROWER than '..Said'. Prove '..Said' where nothing that the law and all that it calls make is longer than what came in: it says more and counts as full. Else prove '..UptoSaid'. A law counts once. -/
mutual
def uptoBulk {H : Type} : DataW H → Nat
  | .lit (.string bytes) => bytes.length + 1
  | .lit _ => 1
  | .nil => 1
  | .ptr d => uptoBulk d + 1
  | .slice elems spare => uptoBulkAll elems + uptoBulkAll spare + 1
  | .agg parts => uptoBulkAll parts + 1
  | .iface _ d => uptoBulk d + 1
  | .map entries => uptoBulkEntries entries + 1
  | .held _ => 1
def uptoBulkAll {H : Type} : List (DataW H) → Nat
  | [] => 0
  | d :: r => uptoBulk d + uptoBulkAll r
def uptoBulkEntries {H : Type} : List (Lit × DataW H) → Nat
  | [] => 0
  | x :: r => uptoBulkEntry x + uptoBulkEntries r
def uptoBulkEntry {H : Type} : Lit × DataW H → Nat
  | (.string bytes, d) => bytes.length + uptoBulk d + 1
  | (_, d) => uptoBulk d + 1
 end
def uptoSmall : (H : Type) → List (DataW H) → Bool := fun _ ds => decide (uptoBulkAll ds ≤ 1048576)
def OpenSpec.upto (s : _root_.Go.ChangeSpec) : _root_.Go.OpenSpec := { _root_.Go.OpenSpec.ofChange s with cond := some uptoSmall }

/-- 'pontagelaw21.PricerCalls', WHERE WHAT IT READS IS OF BULK AT MOST 1048576: true; the input reads as it did. -/
def pricerCallsUptoRow : OpenClaim := { program := "ytpeicefbediffaagreat", sum := "f657e6831ad566c5caf3e8debff53ca0f7ec3bdfac16c879f3173a1a106c49ba", func := "pontage/pontagelaw21.PricerCalls", spec := "pricerCalls", inPlace := ["math/bits.Add64", "slices.overlaps[pontage/api.Poster]", "math/bits.Sub64"], unfollowed := true, recurses := true, apart := false, narrowed := true }
def PricerCallsUptoSaid : Prop := pricerCallsUptoRow.holds Tryz.pinned (OpenSpec.upto pricerCallsSpec)

/-- 'pontagelaw21.PricerArbitraryStates', WHERE WHAT IT READS IS OF BULK AT MOST 1048576: true; the input reads as it did. -/
def pricerArbitraryStatesUptoRow : OpenClaim := { program := "ytpeicefbediffaagreat", sum := "f657e6831ad566c5caf3e8debff53ca0f7ec3bdfac16c879f3173a1a106c49ba", func := "pontage/pontagelaw21.PricerArbitraryStates", spec := "pricerArbitraryStates", inPlace := ["math/bits.Add64", "slices.overlaps[pontage/api.Poster]", "math/bits.Sub64"], unfollowed := true, recurses := true, apart := false, narrowed := true }
def PricerArbitraryStatesUptoSaid : Prop := pricerArbitraryStatesUptoRow.holds Tryz.pinned (OpenSpec.upto pricerArbitraryStatesSpec)

end Rows
end Go.Proofs.YtpeicefbediffaaGreat
