/- The law Int256Arithmetic returns true at every input that its statement lets in. The conditions: none beyond those of the statement itself. -/
import Derived.Test.YthgamlcklidphaaRows
import Derived.WalkKit
import Derived.ProofKit
import Derived.Test.YthgamlcklidphaaPart4
import Derived.Test.YthgamlcklidphaaPart2
namespace Go.Proofs.Ythgamlcklidphaa.int256Arithmetic
open Go.ChangeShapes Go.WideShapes Go.ChangeAt Go.RowKit Sym
theorem own : ownKnob Try.prog.godebug = none := by kernel_rfl
theorem laidOut : laidOutB Try.prog = true := by kernel_rfl
set_option maxRecDepth 100000 in
theorem lifted (os : Os) (started : os.Started) (H : Type) (enc : TypeId × Value → H) :
    ReturnsInHanded {} Try.checked os 6 .any (Rows.int256ArithmeticSpec.pre6 enc Try.prog Try.f6 Rows.int256ArithmeticRow.domain false) (Rows.int256ArithmeticSpec.post enc Try.prog Try.f6 false true false false) := by
  refine returnsInHanded_of_change_sized (C := Try.checked) own started (by kernel_rfl) Try.func6
    (ChangeSpec.witness6 (enc := enc) (C := Try.checked) false ⟨#[], #[.agg #[.bool false, .int .u64 0, .int .u64 0, .int .u64 0, .int .u64 0], .agg #[.bool false, .int .u64 0, .int .u64 0, .int .u64 0, .int .u64 0]], []⟩ 8 (by kernel_rfl) (by kernel_rfl) (by kernel_rfl) (by kernel_rfl)) ?_
  intro W base args ds gs before hval hW _ hsz _
  exact row_of_con (C := Try.checked) (fn := Try.f6) (s := Rows.int256ArithmeticSpec) (ts := [(.cons .bool (.cons (.arr 4 (.int .u64)) .nil)), (.cons .bool (.cons (.arr 4 (.int .u64)) .nil))]) (F := pontagelaw3_Int256Arithmetic) laidOut Try.func6 (by kernel_rfl) (by kernel_rfl) (by kernel_rfl) rfl Try.underlying4 rfl
    (fun ds h => match ds, h with | [_, _], _ => rfl) (ok6) (fun x h => match x with | (a, b, ()) => arith_law a b) base args ds gs before hval hW hsz
theorem over : Rows.int256ArithmeticRow.holds Try.pinned (OpenSpec.ofChange Rows.int256ArithmeticSpec) :=
  OpenClaim.holds_of_wide 6 Try.f6 rfl rfl rfl rfl rfl rfl rfl ⟨rfl, rfl, rfl, rfl, rfl⟩ rfl rfl rfl rfl rfl (by kernel_rfl) Try.func6 (by kernel_rfl)
    (of_decide_eq_true (by kernel_rfl)) (by unfold Func.isWrapper; first | (rw [if_pos (by decide +kernel)]; kernel_rfl) | (rw [if_neg (by decide +kernel)]; exact ⟨rfl, rfl⟩))
    (fun os started H enc _ => lifted os started H enc)
theorem proved : Rows.Int256ArithmeticSaid := over
end Go.Proofs.Ythgamlcklidphaa.int256Arithmetic
namespace Go.Proofs.Ythgamlcklidphaa
/-- The law holds. -/
theorem int256Arithmetic_holds : Rows.Int256ArithmeticSaid := int256Arithmetic.proved
#print axioms int256Arithmetic_holds
end Go.Proofs.Ythgamlcklidphaa
