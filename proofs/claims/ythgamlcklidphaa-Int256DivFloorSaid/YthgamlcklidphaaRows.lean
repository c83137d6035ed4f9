/-
  No cell of these rows narrows 'for every input' (looked for: loops, veiled, ifaces, maps, wideKeys, modest, calm, conditions, laid).
  DERIVED. THE GIVEN ROWS OF THIS SEAT. 7 by the template 'for every input the law returns true; each argument reads behind the call as it read before'; 0 by the template 'total and deterministic' (their statements: YthgamlcklidphaaTotals.lean).
  GIVEN WITH THE SEED: the statements are not yours to turn. If you find one false, say at which input.
  Laid BY PROGRAM, IN A SANDBOX (cutbox-rows.mjs): the forced cells as the released guide's own fill.sh prints them over the translation a70e88e65454b2f6… (all of the seat's roots in one cut). By AI agents, Wed Nov 11 2026. No macro, syntax, notation, axiom, sorry.
-/
import Derived.Test.YthgamlcklidphaaChecked
import GoSem.Claim
import GoSem.ClaimJoined
import GoSem.ClaimMapViews
import Derived.JoinedTies
import Derived.KernelRfl
namespace Go.Proofs.Ythgamlcklidphaa
/- THE CELL 'sum', in the pinned program and in every row, IS THE sha256 OF THE DUMP (.gsa) THAT YthgamlcklidphaaProg.lean LOADS. Nothing in Lean hashes anything: it is a label: what it is worth is what the hold of that sum in a sandbox is worth. -/
noncomputable def Try.pinned : Pinned := { name := "ythgamlcklidphaa", sum := "a70e88e65454b2f645011affc2d534031da0068dfa7dc2e1de34e9234f275029", checked := Try.checked }
namespace Rows
def none {H : Type} : Left H := { results := [], args := [] }

/-- 'pontagelaw3.Int256DivFloor': WHATEVER THE INPUT: true; the input reads as it did. -/
def int256DivFloorSpec : ChangeSpec := { name := "int256DivFloor", fn := fun _ => fun
  | [d1, d2, d3] => { results := [.lit (.bool true)], args := [d1, d2, d3] }
  | _ => none }
def int256DivFloorRow : OpenClaim := { program := "ythgamlcklidphaa", sum := "a70e88e65454b2f645011affc2d534031da0068dfa7dc2e1de34e9234f275029", func := "pontage/pontagelaw3.Int256DivFloor", spec := "int256DivFloor", inPlace := ["math/bits.Sub64", "math/bits.Add64"], apart := false }
def Int256DivFloorSaid : Prop := int256DivFloorRow.holds Try.pinned (OpenSpec.ofChange int256DivFloorSpec)

/-- ITS FALSE NEIGHBOUR: 'it returns false'. Refute it at one input. -/
def int256DivFloorWrong : ChangeSpec := { name := "int256DivFloor", fn := fun _ => fun
  | [d1, d2, d3] => { results := [.lit (.bool false)], args := [d1, d2, d3] }
  | _ => none }
def Int256DivFloorWrongFalsely : Prop := int256DivFloorRow.holds Try.pinned (OpenSpec.ofChange int256DivFloorWrong)

/-- 'pontagelaw3.Int256DiffAddClamped': WHATEVER THE INPUT: true; the input reads as it did. -/
def int256DiffAddClampedSpec : ChangeSpec := { name := "int256DiffAddClamped", fn := fun _ => fun
  | [d1, d2, d3] => { results := [.lit (.bool true)], args := [d1, d2, d3] }
  | _ => none }
def int256DiffAddClampedRow : OpenClaim := { program := "ythgamlcklidphaa", sum := "a70e88e65454b2f645011affc2d534031da0068dfa7dc2e1de34e9234f275029", func := "pontage/pontagelaw3.Int256DiffAddClamped", spec := "int256DiffAddClamped", inPlace := ["math/bits.Sub64", "math/bits.Add64"], apart := false }
def Int256DiffAddClampedSaid : Prop := int256DiffAddClampedRow.holds Try.pinned (OpenSpec.ofChange int256DiffAddClampedSpec)

/-- ITS FALSE NEIGHBOUR: 'it returns false'. Refute it at one input. -/
def int256DiffAddClampedWrong : ChangeSpec := { name := "int256DiffAddClamped", fn := fun _ => fun
  | [d1, d2, d3] => { results := [.lit (.bool false)], args := [d1, d2, d3] }
  | _ => none }
def Int256DiffAddClampedWrongFalsely : Prop := int256DiffAddClampedRow.holds Try.pinned (OpenSpec.ofChange int256DiffAddClampedWrong)

/-- 'pontagelaw3.Int256Order': WHATEVER THE INPUT: true; the input reads as it did. -/
def int256OrderSpec : ChangeSpec := { name := "int256Order", fn := fun _ => fun
  | [d1, d2, d3, d4] => { results := [.lit (.bool true)], args := [d1, d2, d3, d4] }
  | _ => none }
def int256OrderRow : OpenClaim := { program := "ythgamlcklidphaa", sum := "a70e88e65454b2f645011affc2d534031da0068dfa7dc2e1de34e9234f275029", func := "pontage/pontagelaw3.Int256Order", spec := "int256Order", inPlace := ["math/bits.Sub64", "math/bits.Add64"], apart := false }
def Int256OrderSaid : Prop := int256OrderRow.holds Try.pinned (OpenSpec.ofChange int256OrderSpec)

/-- ITS FALSE NEIGHBOUR: 'it returns false'. Refute it at one input. -/
def int256OrderWrong : ChangeSpec := { name := "int256Order", fn := fun _ => fun
  | [d1, d2, d3, d4] => { results := [.lit (.bool false)], args := [d1, d2, d3, d4] }
  | _ => none }
def Int256OrderWrongFalsely : Prop := int256OrderRow.holds Try.pinned (OpenSpec.ofChange int256OrderWrong)

/-- 'pontagelaw3.Int256Arithmetic': WHATEVER THE INPUT: true; the input reads as it did. -/
def int256ArithmeticSpec : ChangeSpec := { name := "int256Arithmetic", fn := fun _ => fun
  | [d1, d2] => { results := [.lit (.bool true)], args := [d1, d2] }
  | _ => none }
def int256ArithmeticRow : OpenClaim := { program := "ythgamlcklidphaa", sum := "a70e88e65454b2f645011affc2d534031da0068dfa7dc2e1de34e9234f275029", func := "pontage/pontagelaw3.Int256Arithmetic", spec := "int256Arithmetic", inPlace := ["math/bits.Add64", "math/bits.Sub64"], apart := false }
def Int256ArithmeticSaid : Prop := int256ArithmeticRow.holds Try.pinned (OpenSpec.ofChange int256ArithmeticSpec)

/-- ITS FALSE NEIGHBOUR: 'it returns false'. Refute it at one input. -/
def int256ArithmeticWrong : ChangeSpec := { name := "int256Arithmetic", fn := fun _ => fun
  | [d1, d2] => { results := [.lit (.bool false)], args := [d1, d2] }
  | _ => none }
def Int256ArithmeticWrongFalsely : Prop := int256ArithmeticRow.holds Try.pinned (OpenSpec.ofChange int256ArithmeticWrong)

/-- 'pontagelaw3.Int256Boundaries': WHATEVER THE INPUT: true; the input reads as it did. -/
def int256BoundariesSpec : ChangeSpec := { name := "int256Boundaries", fn := fun _ => fun
  | [d1, d2, d3, d4, d5, d6] => { results := [.lit (.bool true)], args := [d1, d2, d3, d4, d5, d6] }
  | _ => none }
def int256BoundariesRow : OpenClaim := { program := "ythgamlcklidphaa", sum := "a70e88e65454b2f645011affc2d534031da0068dfa7dc2e1de34e9234f275029", func := "pontage/pontagelaw3.Int256Boundaries", spec := "int256Boundaries", inPlace := ["math/bits.Add64", "math/bits.Sub64"], apart := false }
def Int256BoundariesSaid : Prop := int256BoundariesRow.holds Try.pinned (OpenSpec.ofChange int256BoundariesSpec)

/-- ITS FALSE NEIGHBOUR: 'it returns false'. Refute it at one input. -/
def int256BoundariesWrong : ChangeSpec := { name := "int256Boundaries", fn := fun _ => fun
  | [d1, d2, d3, d4, d5, d6] => { results := [.lit (.bool false)], args := [d1, d2, d3, d4, d5, d6] }
  | _ => none }
def Int256BoundariesWrongFalsely : Prop := int256BoundariesRow.holds Try.pinned (OpenSpec.ofChange int256BoundariesWrong)

/-- 'pontagelaw3.Int256Negation': WHATEVER THE INPUT: true; the input reads as it did. -/
def int256NegationSpec : ChangeSpec := { name := "int256Negation", fn := fun _ => fun
  | [d1, d2] => { results := [.lit (.bool true)], args := [d1, d2] }
  | _ => none }
def int256NegationRow : OpenClaim := { program := "ythgamlcklidphaa", sum := "a70e88e65454b2f645011affc2d534031da0068dfa7dc2e1de34e9234f275029", func := "pontage/pontagelaw3.Int256Negation", spec := "int256Negation", inPlace := ["math/bits.Sub64", "math/bits.Add64"], apart := false }
def Int256NegationSaid : Prop := int256NegationRow.holds Try.pinned (OpenSpec.ofChange int256NegationSpec)

/-- ITS FALSE NEIGHBOUR: 'it returns false'. Refute it at one input. -/
def int256NegationWrong : ChangeSpec := { name := "int256Negation", fn := fun _ => fun
  | [d1, d2] => { results := [.lit (.bool false)], args := [d1, d2] }
  | _ => none }
def Int256NegationWrongFalsely : Prop := int256NegationRow.holds Try.pinned (OpenSpec.ofChange int256NegationWrong)

/-- 'pontagelaw3.Int256Algebra': WHATEVER THE INPUT: true; the input reads as it did. -/
def int256AlgebraSpec : ChangeSpec := { name := "int256Algebra", fn := fun _ => fun
  | [d1, d2, d3] => { results := [.lit (.bool true)], args := [d1, d2, d3] }
  | _ => none }
def int256AlgebraRow : OpenClaim := { program := "ythgamlcklidphaa", sum := "a70e88e65454b2f645011affc2d534031da0068dfa7dc2e1de34e9234f275029", func := "pontage/pontagelaw3.Int256Algebra", spec := "int256Algebra", inPlace := ["math/bits.Sub64", "math/bits.Add64"], apart := false }
def Int256AlgebraSaid : Prop := int256AlgebraRow.holds Try.pinned (OpenSpec.ofChange int256AlgebraSpec)

/-- ITS FALSE NEIGHBOUR: 'it returns false'. Refute it at one input. -/
def int256AlgebraWrong : ChangeSpec := { name := "int256Algebra", fn := fun _ => fun
  | [d1, d2, d3] => { results := [.lit (.bool false)], args := [d1, d2, d3] }
  | _ => none }
def Int256AlgebraWrongFalsely : Prop := int256AlgebraRow.holds Try.pinned (OpenSpec.ofChange int256AlgebraWrong)

/- THE SECOND FORM. 'bulk': how many values and letters a reading holds, each counted each time it is reached (what is shared counts as often as it is met; a slice's spare places count too). A statement '..UptoSaid' is the law's where the arguments, and the package variables that the reading takes, are together of bulk at most 1048576: NARROWER than '..Said'. Prove '..Said' where nothing that the law and all that it calls make is longer than what came in: it says more and counts as full. Else prove '..UptoSaid'. A law counts once. -/
mutual
def uptoBulk {H : Type} : DataW H → Nat
  | .lit (.string bytes) => bytes.length + 1
  | .lit _ => 1
  | .nil => 1
  | .ptr d => uptoBulk d + 1
  | .slice elems spare => uptoBulkAll elems + uptoBulkAll spare + 1
  | .agg parts => uptoBulkAll parts + 1
  | .iface _ d => uptoBulk d + 1
  | .map entries => uptoBulkEntries entries + 1
  | .held _ => 1
def uptoBulkAll {H : Type} : List (DataW H) → Nat
  | [] => 0
  | d :: r => uptoBulk d + uptoBulkAll r
def uptoBulkEntries {H : Type} : List (Lit × DataW H) → Nat
  | [] => 0
  | x :: r => uptoBulkEntry x + uptoBulkEntries r
def uptoBulkEntry {H : Type} : Lit × DataW H → Nat
  | (.string bytes, d) => bytes.length + uptoBulk d + 1
  | (_, d) => uptoBulk d + 1
 end
def uptoSmall : (H : Type) → List (DataW H) → Bool := fun _ ds => decide (uptoBulkAll ds ≤ 1048576)
def OpenSpec.upto (s : _root_.Go.ChangeSpec) : _root_.Go.OpenSpec := { _root_.Go.OpenSpec.ofChange s with cond := some uptoSmall }

/-- 'pontagelaw3.Int256DivFloor', WHERE WHAT IT READS IS OF BULK AT MOST 1048576: true; the input reads as it did. -/
def int256DivFloorUptoRow : OpenClaim := { program := "ythgamlcklidphaa", sum := "a70e88e65454b2f645011affc2d534031da0068dfa7dc2e1de34e9234f275029", func := "pontage/pontagelaw3.Int256DivFloor", spec := "int256DivFloor", inPlace := ["math/bits.Sub64", "math/bits.Add64"], apart := false, narrowed := true }
def Int256DivFloorUptoSaid : Prop := int256DivFloorUptoRow.holds Try.pinned (OpenSpec.upto int256DivFloorSpec)

/-- 'pontagelaw3.Int256DiffAddClamped', WHERE WHAT IT READS IS OF BULK AT MOST 1048576: true; the input reads as it did. -/
def int256DiffAddClampedUptoRow : OpenClaim := { program := "ythgamlcklidphaa", sum := "a70e88e65454b2f645011affc2d534031da0068dfa7dc2e1de34e9234f275029", func := "pontage/pontagelaw3.Int256DiffAddClamped", spec := "int256DiffAddClamped", inPlace := ["math/bits.Sub64", "math/bits.Add64"], apart := false, narrowed := true }
def Int256DiffAddClampedUptoSaid : Prop := int256DiffAddClampedUptoRow.holds Try.pinned (OpenSpec.upto int256DiffAddClampedSpec)

/-- 'pontagelaw3.Int256Order', WHERE WHAT IT READS IS OF BULK AT MOST 1048576: true; the input reads as it did. -/
def int256OrderUptoRow : OpenClaim := { program := "ythgamlcklidphaa", sum := "a70e88e65454b2f645011affc2d534031da0068dfa7dc2e1de34e9234f275029", func := "pontage/pontagelaw3.Int256Order", spec := "int256Order", inPlace := ["math/bits.Sub64", "math/bits.Add64"], apart := false, narrowed := true }
def Int256OrderUptoSaid : Prop := int256OrderUptoRow.holds Try.pinned (OpenSpec.upto int256OrderSpec)

/-- 'pontagelaw3.Int256Arithmetic', WHERE WHAT IT READS IS OF BULK AT MOST 1048576: true; the input reads as it did. -/
def int256ArithmeticUptoRow : OpenClaim := { program := "ythgamlcklidphaa", sum := "a70e88e65454b2f645011affc2d534031da0068dfa7dc2e1de34e9234f275029", func := "pontage/pontagelaw3.Int256Arithmetic", spec := "int256Arithmetic", inPlace := ["math/bits.Add64", "math/bits.Sub64"], apart := false, narrowed := true }
def Int256ArithmeticUptoSaid : Prop := int256ArithmeticUptoRow.holds Try.pinned (OpenSpec.upto int256ArithmeticSpec)

/-- 'pontagelaw3.Int256Boundaries', WHERE WHAT IT READS IS OF BULK AT MOST 1048576: true; the input reads as it did. -/
def int256BoundariesUptoRow : OpenClaim := { program := "ythgamlcklidphaa", sum := "a70e88e65454b2f645011affc2d534031da0068dfa7dc2e1de34e9234f275029", func := "pontage/pontagelaw3.Int256Boundaries", spec := "int256Boundaries", inPlace := ["math/bits.Add64", "math/bits.Sub64"], apart := false, narrowed := true }
def Int256BoundariesUptoSaid : Prop := int256BoundariesUptoRow.holds Try.pinned (OpenSpec.upto int256BoundariesSpec)

/-- 'pontagelaw3.Int256Negation', WHERE WHAT IT READS IS OF BULK AT MOST 1048576: true; the input reads as it did. -/
def int256NegationUptoRow : OpenClaim := { program := "ythgamlcklidphaa", sum := "a70e88e65454b2f645011affc2d534031da0068dfa7dc2e1de34e9234f275029", func := "pontage/pontagelaw3.Int256Negation", spec := "int256Negation", inPlace := ["math/bits.Sub64", "math/bits.Add64"], apart := false, narrowed := true }
def Int256NegationUptoSaid : Prop := int256NegationUptoRow.holds Try.pinned (OpenSpec.upto int256NegationSpec)

/-- 'pontagelaw3.Int256Algebra', WHERE WHAT IT READS IS OF BULK AT MOST 1048576: true; the input reads as it did. -/
def int256AlgebraUptoRow : OpenClaim := { program := "ythgamlcklidphaa", sum := "a70e88e65454b2f645011affc2d534031da0068dfa7dc2e1de34e9234f275029", func := "pontage/pontagelaw3.Int256Algebra", spec := "int256Algebra", inPlace := ["math/bits.Sub64", "math/bits.Add64"], apart := false, narrowed := true }
def Int256AlgebraUptoSaid : Prop := int256AlgebraUptoRow.holds Try.pinned (OpenSpec.upto int256AlgebraSpec)

end Rows
end Go.Proofs.Ythgamlcklidphaa
