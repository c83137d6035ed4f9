/- The law Int256Negation returns true at every input that its statement lets in. The conditions: none beyond those of the statement itself. -/
import Derived.Test.YthgamlcklidphaaRows
import Derived.WalkKit
import Derived.ProofKit
import Derived.Test.YthgamlcklidphaaPart4
import Derived.Test.YthgamlcklidphaaPart2
namespace Go.Proofs.Ythgamlcklidphaa.int256Negation
open Go.ChangeShapes Go.WideShapes Go.ChangeAt Go.RowKit Sym
theorem own : ownKnob Try.prog.godebug = none := by kernel_rfl
theorem laidOut : laidOutB Try.prog = true := by kernel_rfl
set_option maxRecDepth 100000 in
theorem lifted (os : Os) (started : os.Started) (H : Type) (enc : TypeId × Value → H) :
    ReturnsInHanded {} Try.checked os 8 .any (Rows.int256NegationSpec.pre6 enc Try.prog Try.f8 Rows.int256NegationRow.domain false) (Rows.int256NegationSpec.post enc Try.prog Try.f8 false true false false) := by
  refine returnsInHanded_of_change_sized (C := Try.checked) own started (by kernel_rfl) Try.func8
    (ChangeSpec.witness6 (enc := enc) (C := Try.checked) false ⟨#[], #[.agg #[.bool false, .int .u64 0, .int .u64 0, .int .u64 0, .int .u64 0], .agg #[.bool false, .int .u64 0, .int .u64 0, .int .u64 0, .int .u64 0]], []⟩ 8 (by kernel_rfl) (by kernel_rfl) (by kernel_rfl) (by kernel_rfl)) ?_
  intro W base args ds gs before hval hW _ hsz _
  exact row_of_con (C := Try.checked) (fn := Try.f8) (s := Rows.int256NegationSpec) (ts := [(.cons .bool (.cons (.arr 4 (.int .u64)) .nil)), (.cons .bool (.cons (.arr 4 (.int .u64)) .nil))]) (F := pontagelaw3_Int256Negation) laidOut Try.func8 (by kernel_rfl) (by kernel_rfl) (by kernel_rfl) rfl Try.underlying4 rfl
    (fun ds h => match ds, h with | [_, _], _ => rfl) (ok8) (fun x h => match x with | (a, b, ()) => negation_law a b) base args ds gs before hval hW hsz
theorem over : Rows.int256NegationRow.holds Try.pinned (OpenSpec.ofChange Rows.int256NegationSpec) :=
  OpenClaim.holds_of_wide 8 Try.f8 rfl rfl rfl rfl rfl rfl rfl ⟨rfl, rfl, rfl, rfl, rfl⟩ rfl rfl rfl rfl rfl (by kernel_rfl) Try.func8 (by kernel_rfl)
    (of_decide_eq_true (by kernel_rfl)) (by unfold Func.isWrapper; first | (rw [if_pos (by decide +kernel)]; kernel_rfl) | (rw [if_neg (by decide +kernel)]; exact ⟨rfl, rfl⟩))
    (fun os started H enc _ => lifted os started H enc)
theorem proved : Rows.Int256NegationSaid := over
end Go.Proofs.Ythgamlcklidphaa.int256Negation
namespace Go.Proofs.Ythgamlcklidphaa
/-- The law holds. -/
theorem int256Negation_holds : Rows.Int256NegationSaid := int256Negation.proved
#print axioms int256Negation_holds
end Go.Proofs.Ythgamlcklidphaa
