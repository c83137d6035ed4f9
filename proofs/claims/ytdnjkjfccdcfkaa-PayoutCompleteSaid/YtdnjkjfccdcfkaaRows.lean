/-
  No cell of these rows narrows 'for every input' (looked for: loops, veiled, ifaces, maps, wideKeys, modest, calm, conditions, laid).
  DERIVED. THE GIVEN ROWS OF THIS SEAT. 5 by the template 'for every input the law returns true; each argument reads behind the call as it read before'; 0 by the template 'total and deterministic' (their statements: YtdnjkjfccdcfkaaTotals.lean).
  GIVEN WITH THE SEED: the statements are not yours to turn. If you find one false, say at which input.
  Laid BY PROGRAM, IN A SANDBOX (cutbox-rows.mjs): the forced cells as the released guide's own fill.sh prints them over the translation 5a8d9ef5c33c9d53… (all of the seat's roots in one cut). By AI agents, Wed Nov 11 2026. No macro, syntax, notation, axiom, sorry.
-/
import Derived.Test.YtdnjkjfccdcfkaaChecked
import GoSem.Claim
import GoSem.ClaimJoined
import GoSem.ClaimMapViews
import Derived.JoinedTies
import Derived.KernelRfl
namespace Go.Proofs.Ytdnjkjfccdcfkaa
/- THE CELL 'sum', in the pinned program and in every row, IS THE sha256 OF THE DUMP (.gsa) THAT YtdnjkjfccdcfkaaProg.lean LOADS. Nothing in Lean hashes anything: it is a label: what it is worth is what the hold of that sum in a sandbox is worth. -/
noncomputable def Try.pinned : Pinned := { name := "ytdnjkjfccdcfkaa", sum := "5a8d9ef5c33c9d53effa2cb58ba03cec12a0851b28464488ab7259bb2b93e4ad", checked := Try.checked }
namespace Rows
def none {H : Type} : Left H := { results := [], args := [] }

/-- 'pontagelaw20.PayoutPlan': WHATEVER THE INPUT: true; the input reads as it did. -/
def payoutPlanSpec : ChangeSpec := { name := "payoutPlan", fn := fun _ => fun
  | [d1, d2, d3, d4] => { results := [.lit (.bool true)], args := [d1, d2, d3, d4] }
  | _ => none }
def payoutPlanRow : OpenClaim := { program := "ytdnjkjfccdcfkaa", sum := "5a8d9ef5c33c9d53effa2cb58ba03cec12a0851b28464488ab7259bb2b93e4ad", func := "pontage/pontagelaw20.PayoutPlan", spec := "payoutPlan", inPlace := ["math/bits.Add64", "math/bits.Sub64"], unfollowed := true, recurses := true, apart := false }
def PayoutPlanSaid : Prop := payoutPlanRow.holds Try.pinned (OpenSpec.ofChange payoutPlanSpec)

/-- ITS FALSE NEIGHBOUR: 'it returns false'. Refute it at one input. -/
def payoutPlanWrong : ChangeSpec := { name := "payoutPlan", fn := fun _ => fun
  | [d1, d2, d3, d4] => { results := [.lit (.bool false)], args := [d1, d2, d3, d4] }
  | _ => none }
def PayoutPlanWrongFalsely : Prop := payoutPlanRow.holds Try.pinned (OpenSpec.ofChange payoutPlanWrong)

/-- 'pontagelaw20.PayoutMonotone': WHATEVER THE INPUT: true; the input reads as it did. -/
def payoutMonotoneSpec : ChangeSpec := { name := "payoutMonotone", fn := fun _ => fun
  | [d1, d2, d3, d4] => { results := [.lit (.bool true)], args := [d1, d2, d3, d4] }
  | _ => none }
def payoutMonotoneRow : OpenClaim := { program := "ytdnjkjfccdcfkaa", sum := "5a8d9ef5c33c9d53effa2cb58ba03cec12a0851b28464488ab7259bb2b93e4ad", func := "pontage/pontagelaw20.PayoutMonotone", spec := "payoutMonotone", inPlace := ["math/bits.Add64", "math/bits.Sub64"], unfollowed := true, recurses := true, apart := false }
def PayoutMonotoneSaid : Prop := payoutMonotoneRow.holds Try.pinned (OpenSpec.ofChange payoutMonotoneSpec)

/-- ITS FALSE NEIGHBOUR: 'it returns false'. Refute it at one input. -/
def payoutMonotoneWrong : ChangeSpec := { name := "payoutMonotone", fn := fun _ => fun
  | [d1, d2, d3, d4] => { results := [.lit (.bool false)], args := [d1, d2, d3, d4] }
  | _ => none }
def PayoutMonotoneWrongFalsely : Prop := payoutMonotoneRow.holds Try.pinned (OpenSpec.ofChange payoutMonotoneWrong)

/-- 'pontagelaw20.PayoutOldestFirst': WHATEVER THE INPUT: true; the input reads as it did. -/
def payoutOldestFirstSpec : ChangeSpec := { name := "payoutOldestFirst", fn := fun _ => fun
  | [d1, d2] => { results := [.lit (.bool true)], args := [d1, d2] }
  | _ => none }
def payoutOldestFirstRow : OpenClaim := { program := "ytdnjkjfccdcfkaa", sum := "5a8d9ef5c33c9d53effa2cb58ba03cec12a0851b28464488ab7259bb2b93e4ad", func := "pontage/pontagelaw20.PayoutOldestFirst", spec := "payoutOldestFirst", inPlace := ["math/bits.Add64", "math/bits.Sub64"], unfollowed := true, recurses := true, apart := false }
def PayoutOldestFirstSaid : Prop := payoutOldestFirstRow.holds Try.pinned (OpenSpec.ofChange payoutOldestFirstSpec)

/-- ITS FALSE NEIGHBOUR: 'it returns false'. Refute it at one input. -/
def payoutOldestFirstWrong : ChangeSpec := { name := "payoutOldestFirst", fn := fun _ => fun
  | [d1, d2] => { results := [.lit (.bool false)], args := [d1, d2] }
  | _ => none }
def PayoutOldestFirstWrongFalsely : Prop := payoutOldestFirstRow.holds Try.pinned (OpenSpec.ofChange payoutOldestFirstWrong)

/-- 'pontagelaw20.PayoutSumApply': WHATEVER THE INPUT: true; the input reads as it did. -/
def payoutSumApplySpec : ChangeSpec := { name := "payoutSumApply", fn := fun _ => fun
  | [d1, d2, d3] => { results := [.lit (.bool true)], args := [d1, d2, d3] }
  | _ => none }
def payoutSumApplyRow : OpenClaim := { program := "ytdnjkjfccdcfkaa", sum := "5a8d9ef5c33c9d53effa2cb58ba03cec12a0851b28464488ab7259bb2b93e4ad", func := "pontage/pontagelaw20.PayoutSumApply", spec := "payoutSumApply", inPlace := ["math/bits.Add64", "math/bits.Sub64"], unfollowed := true, recurses := true, apart := false }
def PayoutSumApplySaid : Prop := payoutSumApplyRow.holds Try.pinned (OpenSpec.ofChange payoutSumApplySpec)

/-- ITS FALSE NEIGHBOUR: 'it returns false'. Refute it at one input. -/
def payoutSumApplyWrong : ChangeSpec := { name := "payoutSumApply", fn := fun _ => fun
  | [d1, d2, d3] => { results := [.lit (.bool false)], args := [d1, d2, d3] }
  | _ => none }
def PayoutSumApplyWrongFalsely : Prop := payoutSumApplyRow.holds Try.pinned (OpenSpec.ofChange payoutSumApplyWrong)

/-- 'pontagelaw20.PayoutComplete': WHATEVER THE INPUT: true; the input reads as it did. -/
def payoutCompleteSpec : ChangeSpec := { name := "payoutComplete", fn := fun _ => fun
  | [d1, d2, d3] => { results := [.lit (.bool true)], args := [d1, d2, d3] }
  | _ => none }
def payoutCompleteRow : OpenClaim := { program := "ytdnjkjfccdcfkaa", sum := "5a8d9ef5c33c9d53effa2cb58ba03cec12a0851b28464488ab7259bb2b93e4ad", func := "pontage/pontagelaw20.PayoutComplete", spec := "payoutComplete", inPlace := ["math/bits.Add64", "math/bits.Sub64"], unfollowed := true, recurses := true, apart := false }
def PayoutCompleteSaid : Prop := payoutCompleteRow.holds Try.pinned (OpenSpec.ofChange payoutCompleteSpec)

/-- ITS FALSE NEIGHBOUR: 'it returns false'. Refute it at one input. -/
def payoutCompleteWrong : ChangeSpec := { name := "payoutComplete", fn := fun _ => fun
  | [d1, d2, d3] => { results := [.lit (.bool false)], args := [d1, d2, d3] }
  | _ => none }
def PayoutCompleteWrongFalsely : Prop := payoutCompleteRow.holds Try.pinned (OpenSpec.ofChange payoutCompleteWrong)

/- THE SECOND FORM. 'bulk': how many values and letters a reading holds, each counted each time it is reached (what is shared counts as often as it is met; a slice's spare places count too). A statement '..UptoSaid' is the law's where the arguments, and the package variables that the reading takes, are together of bulk at most 1048576: NARROWER than '..Said'. Prove '..Said' where nothing that the law and all that it calls make is longer than what came in: it says more and counts as full. Else prove '..UptoSaid'. A law counts once. -/
mutual
def uptoBulk {H : Type} : DataW H → Nat
  | .lit (.string bytes) => bytes.length + 1
  | .lit _ => 1
  | .nil => 1
  | .ptr d => uptoBulk d + 1
  | .slice elems spare => uptoBulkAll elems + uptoBulkAll spare + 1
  | .agg parts => uptoBulkAll parts + 1
  | .iface _ d => uptoBulk d + 1
  | .map entries => uptoBulkEntries entries + 1
  | .held _ => 1
def uptoBulkAll {H : Type} : List (DataW H) → Nat
  | [] => 0
  | d :: r => uptoBulk d + uptoBulkAll r
def uptoBulkEntries {H : Type} : List (Lit × DataW H) → Nat
  | [] => 0
  | x :: r => uptoBulkEntry x + uptoBulkEntries r
def uptoBulkEntry {H : Type} : Lit × DataW H → Nat
  | (.string bytes, d) => bytes.length + uptoBulk d + 1
  | (_, d) => uptoBulk d + 1
 end
def uptoSmall : (H : Type) → List (DataW H) → Bool := fun _ ds => decide (uptoBulkAll ds ≤ 1048576)
def OpenSpec.upto (s : _root_.Go.ChangeSpec) : _root_.Go.OpenSpec := { _root_.Go.OpenSpec.ofChange s with cond := some uptoSmall }

/-- 'pontagelaw20.PayoutPlan', WHERE WHAT IT READS IS OF BULK AT MOST 1048576: true; the input reads as it did. -/
def payoutPlanUptoRow : OpenClaim := { program := "ytdnjkjfccdcfkaa", sum := "5a8d9ef5c33c9d53effa2cb58ba03cec12a0851b28464488ab7259bb2b93e4ad", func := "pontage/pontagelaw20.PayoutPlan", spec := "payoutPlan", inPlace := ["math/bits.Add64", "math/bits.Sub64"], unfollowed := true, recurses := true, apart := false, narrowed := true }
def PayoutPlanUptoSaid : Prop := payoutPlanUptoRow.holds Try.pinned (OpenSpec.upto payoutPlanSpec)

/-- 'pontagelaw20.PayoutMonotone', WHERE WHAT IT READS IS OF BULK AT MOST 1048576: true; the input reads as it did. -/
def payoutMonotoneUptoRow : OpenClaim := { program := "ytdnjkjfccdcfkaa", sum := "5a8d9ef5c33c9d53effa2cb58ba03cec12a0851b28464488ab7259bb2b93e4ad", func := "pontage/pontagelaw20.PayoutMonotone", spec := "payoutMonotone", inPlace := ["math/bits.Add64", "math/bits.Sub64"], unfollowed := true, recurses := true, apart := false, narrowed := true }
def PayoutMonotoneUptoSaid : Prop := payoutMonotoneUptoRow.holds Try.pinned (OpenSpec.upto payoutMonotoneSpec)

/-- 'pontagelaw20.PayoutOldestFirst', WHERE WHAT IT READS IS OF BULK AT MOST 1048576: true; the input reads as it did. -/
def payoutOldestFirstUptoRow : OpenClaim := { program := "ytdnjkjfccdcfkaa", sum := "5a8d9ef5c33c9d53effa2cb58ba03cec12a0851b28464488ab7259bb2b93e4ad", func := "pontage/pontagelaw20.PayoutOldestFirst", spec := "payoutOldestFirst", inPlace := ["math/bits.Add64", "math/bits.Sub64"], unfollowed := true, recurses := true, apart := false, narrowed := true }
def PayoutOldestFirstUptoSaid : Prop := payoutOldestFirstUptoRow.holds Try.pinned (OpenSpec.upto payoutOldestFirstSpec)

/-- 'pontagelaw20.PayoutSumApply', WHERE WHAT IT READS IS OF BULK AT MOST 1048576: true; the input reads as it did. -/
def payoutSumApplyUptoRow : OpenClaim := { program := "ytdnjkjfccdcfkaa", sum := "5a8d9ef5c33c9d53effa2cb58ba03cec12a0851b28464488ab7259bb2b93e4ad", func := "pontage/pontagelaw20.PayoutSumApply", spec := "payoutSumApply", inPlace := ["math/bits.Add64", "math/bits.Sub64"], unfollowed := true, recurses := true, apart := false, narrowed := true }
def PayoutSumApplyUptoSaid : Prop := payoutSumApplyUptoRow.holds Try.pinned (OpenSpec.upto payoutSumApplySpec)

/-- 'pontagelaw20.PayoutComplete', WHERE WHAT IT READS IS OF BULK AT MOST 1048576: true; the input reads as it did. -/
def payoutCompleteUptoRow : OpenClaim := { program := "ytdnjkjfccdcfkaa", sum := "5a8d9ef5c33c9d53effa2cb58ba03cec12a0851b28464488ab7259bb2b93e4ad", func := "pontage/pontagelaw20.PayoutComplete", spec := "payoutComplete", inPlace := ["math/bits.Add64", "math/bits.Sub64"], unfollowed := true, recurses := true, apart := false, narrowed := true }
def PayoutCompleteUptoSaid : Prop := payoutCompleteUptoRow.holds Try.pinned (OpenSpec.upto payoutCompleteSpec)

end Rows
end Go.Proofs.Ytdnjkjfccdcfkaa
