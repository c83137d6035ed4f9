/- The law Int256Algebra returns true at every input that its statement lets in. The conditions: none beyond those of the statement itself. -/
import Derived.Test.YthgamlcklidphaaRows
import Derived.WalkKit
import Derived.ProofKit
import Derived.Test.YthgamlcklidphaaPart4
import Derived.Test.YthgamlcklidphaaPart2
namespace Go.Proofs.Ythgamlcklidphaa.int256Algebra
open Go.ChangeShapes Go.WideShapes Go.ChangeAt Go.RowKit Sym
theorem own : ownKnob Try.prog.godebug = none := by kernel_rfl
theorem laidOut : laidOutB Try.prog = true := by kernel_rfl
set_option maxRecDepth 100000 in
theorem lifted (os : Os) (started : os.Started) (H : Type) (enc : TypeId × Value → H) :
    ReturnsInHanded {} Try.checked os 9 .any (Rows.int256AlgebraSpec.pre6 enc Try.prog Try.f9 Rows.int256AlgebraRow.domain false) (Rows.int256AlgebraSpec.post enc Try.prog Try.f9 false true false false) := by
  refine returnsInHanded_of_change_sized (C := Try.checked) own started (by kernel_rfl) Try.func9
    (ChangeSpec.witness6 (enc := enc) (C := Try.checked) false ⟨#[], #[.agg #[.bool false, .int .u64 0, .int .u64 0, .int .u64 0, .int .u64 0], .agg #[.bool false, .int .u64 0, .int .u64 0, .int .u64 0, .int .u64 0], .int .u64 0], []⟩ 8 (by kernel_rfl) (by kernel_rfl) (by kernel_rfl) (by kernel_rfl)) ?_
  intro W base args ds gs before hval hW _ hsz _
  exact row_of_con (C := Try.checked) (fn := Try.f9) (s := Rows.int256AlgebraSpec) (ts := [(.cons .bool (.cons (.arr 4 (.int .u64)) .nil)), (.cons .bool (.cons (.arr 4 (.int .u64)) .nil)), (.int .u64)]) (F := pontagelaw3_Int256Algebra) laidOut Try.func9 (by kernel_rfl) (by kernel_rfl) (by kernel_rfl) rfl Try.underlying4 rfl
    (fun ds h => match ds, h with | [_, _, _], _ => rfl) (ok9) (fun x h => match x with | (a, b, c, ()) => algebra_law a b c) base args ds gs before hval hW hsz
theorem over : Rows.int256AlgebraRow.holds Try.pinned (OpenSpec.ofChange Rows.int256AlgebraSpec) :=
  OpenClaim.holds_of_wide 9 Try.f9 rfl rfl rfl rfl rfl rfl rfl ⟨rfl, rfl, rfl, rfl, rfl⟩ rfl rfl rfl rfl rfl (by kernel_rfl) Try.func9 (by kernel_rfl)
    (of_decide_eq_true (by kernel_rfl)) (by unfold Func.isWrapper; first | (rw [if_pos (by decide +kernel)]; kernel_rfl) | (rw [if_neg (by decide +kernel)]; exact ⟨rfl, rfl⟩))
    (fun os started H enc _ => lifted os started H enc)
theorem proved : Rows.Int256AlgebraSaid := over
end Go.Proofs.Ythgamlcklidphaa.int256Algebra
namespace Go.Proofs.Ythgamlcklidphaa
/-- The law holds. -/
theorem int256Algebra_holds : Rows.Int256AlgebraSaid := int256Algebra.proved
#print axioms int256Algebra_holds
end Go.Proofs.Ythgamlcklidphaa
