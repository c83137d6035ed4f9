/-
  No cell of these rows narrows 'for every input' (looked for: loops, veiled, ifaces, maps, wideKeys, modest, calm, conditions, laid).
  DERIVED. THE GIVEN ROWS OF THIS SEAT. 5 by the template 'for every input the law returns true; each argument reads behind the call as it read before'; 0 by the template 'total and deterministic' (their statements: YtojogbnepbblgaaGreatTotals.lean).
  GIVEN WITH THE SEED: the statements are not yours to turn. If you find one false, say at which input.
  Laid BY PROGRAM, IN A SANDBOX (cutbox-rows.mjs): the forced cells as the released guide's own fill.sh prints them over the translation cce021429c828131… (all of the seat's roots in one cut). By AI agents, Wed Nov 11 2026. No macro, syntax, notation, axiom, sorry.
-/
import Derived.Test.YtojogbnepbblgaaGreatChecked
import GoSem.Claim
import GoSem.ClaimJoined
import GoSem.ClaimMapViews
import Derived.JoinedTies
import Derived.KernelRfl
namespace Go.Proofs.YtojogbnepbblgaaGreat
/- THE CELL 'sum', in the pinned program and in every row, IS THE sha256 OF THE DUMP (.gsa) THAT YtojogbnepbblgaaGreatProg.lean LOADS. Nothing in Lean hashes anything: it is a label: what it is worth is what the hold of that sum in a sandbox is worth. -/
noncomputable def Tryz.pinned : Pinned := { name := "ytojogbnepbblgaagreat", sum := "cce021429c8281315d677b99d71f50fb540271414ff1140aeb2f8ddad7273521", checked := Tryz.checked }
namespace Rows
def none {H : Type} : Left H := { results := [], args := [] }

/-- 'pontagelaw31.AuditTotal': WHATEVER THE INPUT: true; the input reads as it did. -/
def auditTotalSpec : ChangeSpec := { name := "auditTotal", fn := fun _ => fun
  | [d1, d2, d3, d4, d5, d6] => { results := [.lit (.bool true)], args := [d1, d2, d3, d4, d5, d6] }
  | _ => none }
def auditTotalRow : OpenClaim := { program := "ytojogbnepbblgaagreat", sum := "cce021429c8281315d677b99d71f50fb540271414ff1140aeb2f8ddad7273521", func := "pontage/pontagelaw31.AuditTotal", spec := "auditTotal", inPlace := ["math/bits.Add64"], recurses := true, apart := false }
def AuditTotalSaid : Prop := auditTotalRow.holds Tryz.pinned (OpenSpec.ofChange auditTotalSpec)

/-- ITS FALSE NEIGHBOUR: 'it returns false'. Refute it at one input. -/
def auditTotalWrong : ChangeSpec := { name := "auditTotal", fn := fun _ => fun
  | [d1, d2, d3, d4, d5, d6] => { results := [.lit (.bool false)], args := [d1, d2, d3, d4, d5, d6] }
  | _ => none }
def AuditTotalWrongFalsely : Prop := auditTotalRow.holds Tryz.pinned (OpenSpec.ofChange auditTotalWrong)

/-- 'pontagelaw31.AuditCheck': WHATEVER THE INPUT: true; the input reads as it did. -/
def auditCheckSpec : ChangeSpec := { name := "auditCheck", fn := fun _ => fun
  | [d1, d2, d3, d4, d5] => { results := [.lit (.bool true)], args := [d1, d2, d3, d4, d5] }
  | _ => none }
def auditCheckRow : OpenClaim := { program := "ytojogbnepbblgaagreat", sum := "cce021429c8281315d677b99d71f50fb540271414ff1140aeb2f8ddad7273521", func := "pontage/pontagelaw31.AuditCheck", spec := "auditCheck", inPlace := ["math/bits.Add64"], recurses := true, apart := false }
def AuditCheckSaid : Prop := auditCheckRow.holds Tryz.pinned (OpenSpec.ofChange auditCheckSpec)

/-- ITS FALSE NEIGHBOUR: 'it returns false'. Refute it at one input. -/
def auditCheckWrong : ChangeSpec := { name := "auditCheck", fn := fun _ => fun
  | [d1, d2, d3, d4, d5] => { results := [.lit (.bool false)], args := [d1, d2, d3, d4, d5] }
  | _ => none }
def AuditCheckWrongFalsely : Prop := auditCheckRow.holds Tryz.pinned (OpenSpec.ofChange auditCheckWrong)

/-- 'pontagelaw31.AuditConsistent': WHATEVER THE INPUT: true; the input reads as it did. -/
def auditConsistentSpec : ChangeSpec := { name := "auditConsistent", fn := fun _ => fun
  | [d] => { results := [.lit (.bool true)], args := [d] }
  | _ => none }
def auditConsistentRow : OpenClaim := { program := "ytojogbnepbblgaagreat", sum := "cce021429c8281315d677b99d71f50fb540271414ff1140aeb2f8ddad7273521", func := "pontage/pontagelaw31.AuditConsistent", spec := "auditConsistent", inPlace := ["math/bits.Add64"], recurses := true, apart := false }
def AuditConsistentSaid : Prop := auditConsistentRow.holds Tryz.pinned (OpenSpec.ofChange auditConsistentSpec)

/-- ITS FALSE NEIGHBOUR: 'it returns false'. Refute it at one input. -/
def auditConsistentWrong : ChangeSpec := { name := "auditConsistent", fn := fun _ => fun
  | [d] => { results := [.lit (.bool false)], args := [d] }
  | _ => none }
def AuditConsistentWrongFalsely : Prop := auditConsistentRow.holds Tryz.pinned (OpenSpec.ofChange auditConsistentWrong)

/-- 'pontagelaw31.AuditOrderFree': WHATEVER THE INPUT: true; the input reads as it did. -/
def auditOrderFreeSpec : ChangeSpec := { name := "auditOrderFree", fn := fun _ => fun
  | [d] => { results := [.lit (.bool true)], args := [d] }
  | _ => none }
def auditOrderFreeRow : OpenClaim := { program := "ytojogbnepbblgaagreat", sum := "cce021429c8281315d677b99d71f50fb540271414ff1140aeb2f8ddad7273521", func := "pontage/pontagelaw31.AuditOrderFree", spec := "auditOrderFree", inPlace := ["math/bits.Add64"], recurses := true, apart := false }
def AuditOrderFreeSaid : Prop := auditOrderFreeRow.holds Tryz.pinned (OpenSpec.ofChange auditOrderFreeSpec)

/-- ITS FALSE NEIGHBOUR: 'it returns false'. Refute it at one input. -/
def auditOrderFreeWrong : ChangeSpec := { name := "auditOrderFree", fn := fun _ => fun
  | [d] => { results := [.lit (.bool false)], args := [d] }
  | _ => none }
def AuditOrderFreeWrongFalsely : Prop := auditOrderFreeRow.holds Tryz.pinned (OpenSpec.ofChange auditOrderFreeWrong)

/-- 'pontagelaw31.AuditDebited': WHATEVER THE INPUT: true; the input reads as it did. -/
def auditDebitedSpec : ChangeSpec := { name := "auditDebited", fn := fun _ => fun
  | [d1, d2] => { results := [.lit (.bool true)], args := [d1, d2] }
  | _ => none }
def auditDebitedRow : OpenClaim := { program := "ytojogbnepbblgaagreat", sum := "cce021429c8281315d677b99d71f50fb540271414ff1140aeb2f8ddad7273521", func := "pontage/pontagelaw31.AuditDebited", spec := "auditDebited", inPlace := ["math/bits.Add64"], recurses := true, apart := false }
def AuditDebitedSaid : Prop := auditDebitedRow.holds Tryz.pinned (OpenSpec.ofChange auditDebitedSpec)

/-- ITS FALSE NEIGHBOUR: 'it returns false'. Refute it at one input. -/
def auditDebitedWrong : ChangeSpec := { name := "auditDebited", fn := fun _ => fun
  | [d1, d2] => { results := [.lit (.bool false)], args := [d1, d2] }
  | _ => none }
def AuditDebitedWrongFalsely : Prop := auditDebitedRow.holds Tryz.pinned (OpenSpec.ofChange auditDebitedWrong)

/- THE SECOND FORM. 'bulk': how many values and letters a reading holds, each counted each time it is reached (what is shared counts as often as it is met; a slice's spare places count too). A statement '..UptoSaid' is the law's where the arguments, and the package variables that the reading takes, are together of bulk at most 1048576: NARROWER than '..Said'. Prove '..Said' where nothing that the law and all that it calls make is longer than what came in: it says more and counts as full. Else prove '..UptoSaid'. A law counts once. -/
mutual
def uptoBulk {H : Type} : DataW H → Nat
  | .lit (.string bytes) => bytes.length + 1
  | .lit _ => 1
  | .nil => 1
  | .ptr d => uptoBulk d + 1
  | .slice elems spare => uptoBulkAll elems + uptoBulkAll spare + 1
  | .agg parts => uptoBulkAll parts + 1
  | .iface _ d => uptoBulk d + 1
  | .map entries => uptoBulkEntries entries + 1
  | .held _ => 1
def uptoBulkAll {H : Type} : List (DataW H) → Nat
  | [] => 0
  | d :: r => uptoBulk d + uptoBulkAll r
def uptoBulkEntries {H : Type} : List (Lit × DataW H) → Nat
  | [] => 0
  | x :: r => uptoBulkEntry x + uptoBulkEntries r
def uptoBulkEntry {H : Type} : Lit × DataW H → Nat
  | (.string bytes, d) => bytes.length + uptoBulk d + 1
  | (_, d) => uptoBulk d + 1
 end
def uptoSmall : (H : Type) → List (DataW H) → Bool := fun _ ds => decide (uptoBulkAll ds ≤ 1048576)
def OpenSpec.upto (s : _root_.Go.ChangeSpec) : _root_.Go.OpenSpec := { _root_.Go.OpenSpec.ofChange s with cond := some uptoSmall }

/-- 'pontagelaw31.AuditTotal', WHERE WHAT IT READS IS OF BULK AT MOST 1048576: true; the input reads as it did. -/
def auditTotalUptoRow : OpenClaim := { program := "ytojogbnepbblgaagreat", sum := "cce021429c8281315d677b99d71f50fb540271414ff1140aeb2f8ddad7273521", func := "pontage/pontagelaw31.AuditTotal", spec := "auditTotal", inPlace := ["math/bits.Add64"], recurses := true, apart := false, narrowed := true }
def AuditTotalUptoSaid : Prop := auditTotalUptoRow.holds Tryz.pinned (OpenSpec.upto auditTotalSpec)

/-- 'pontagelaw31.AuditCheck', WHERE WHAT IT READS IS OF BULK AT MOST 1048576: true; the input reads as it did. -/
def auditCheckUptoRow : OpenClaim := { program := "ytojogbnepbblgaagreat", sum := "cce021429c8281315d677b99d71f50fb540271414ff1140aeb2f8ddad7273521", func := "pontage/pontagelaw31.AuditCheck", spec := "auditCheck", inPlace := ["math/bits.Add64"], recurses := true, apart := false, narrowed := true }
def AuditCheckUptoSaid : Prop := auditCheckUptoRow.holds Tryz.pinned (OpenSpec.upto auditCheckSpec)

/-- 'pontagelaw31.AuditConsistent', WHERE WHAT IT READS IS OF BULK AT MOST 1048576: true; the input reads as it did. -/
def auditConsistentUptoRow : OpenClaim := { program := "ytojogbnepbblgaagreat", sum := "cce021429c8281315d677b99d71f50fb540271414ff1140aeb2f8ddad7273521", func := "pontage/pontagelaw31.AuditConsistent", spec := "auditConsistent", inPlace := ["math/bits.Add64"], recurses := true, apart := false, narrowed := true }
def AuditConsistentUptoSaid : Prop := auditConsistentUptoRow.holds Tryz.pinned (OpenSpec.upto auditConsistentSpec)

/-- 'pontagelaw31.AuditOrderFree', WHERE WHAT IT READS IS OF BULK AT MOST 1048576: true; the input reads as it did. -/
def auditOrderFreeUptoRow : OpenClaim := { program := "ytojogbnepbblgaagreat", sum := "cce021429c8281315d677b99d71f50fb540271414ff1140aeb2f8ddad7273521", func := "pontage/pontagelaw31.AuditOrderFree", spec := "auditOrderFree", inPlace := ["math/bits.Add64"], recurses := true, apart := false, narrowed := true }
def AuditOrderFreeUptoSaid : Prop := auditOrderFreeUptoRow.holds Tryz.pinned (OpenSpec.upto auditOrderFreeSpec)

/-- 'pontagelaw31.AuditDebited', WHERE WHAT IT READS IS OF BULK AT MOST 1048576: true; the input reads as it did. -/
def auditDebitedUptoRow : OpenClaim := { program := "ytojogbnepbblgaagreat", sum := "cce021429c8281315d677b99d71f50fb540271414ff1140aeb2f8ddad7273521", func := "pontage/pontagelaw31.AuditDebited", spec := "auditDebited", inPlace := ["math/bits.Add64"], recurses := true, apart := false, narrowed := true }
def AuditDebitedUptoSaid : Prop := auditDebitedUptoRow.holds Tryz.pinned (OpenSpec.upto auditDebitedSpec)

end Rows
end Go.Proofs.YtojogbnepbblgaaGreat
