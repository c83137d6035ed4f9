/- The law Int256DivFloor returns true at every input that its statement lets in. The conditions: none beyond those of the statement itself. -/
import Derived.Test.YthgamlcklidphaaRows
import Derived.WalkKit
import Derived.ProofKit
import Derived.Test.YthgamlcklidphaaPart5
import Derived.Test.YthgamlcklidphaaPart4
import Derived.Test.YthgamlcklidphaaPart3
namespace Go.Proofs.Ythgamlcklidphaa.int256DivFloor
open Go.ChangeShapes Go.WideShapes Go.ChangeAt Go.RowKit Sym
theorem own : ownKnob Try.prog.godebug = none := by kernel_rfl
theorem laidOut : laidOutB Try.prog = true := by kernel_rfl
set_option maxRecDepth 100000 in
theorem lifted (os : Os) (started : os.Started) (H : Type) (enc : TypeId × Value → H) :
    ReturnsInHanded {} Try.checked os 3 .any (Rows.int256DivFloorSpec.pre6 enc Try.prog Try.f3 Rows.int256DivFloorRow.domain false) (Rows.int256DivFloorSpec.post enc Try.prog Try.f3 false true false false) := by
  refine returnsInHanded_of_change_sized (C := Try.checked) own started (by kernel_rfl) Try.func3
    (ChangeSpec.witness6 (enc := enc) (C := Try.checked) false ⟨#[], #[.agg #[.bool false, .int .u64 0, .int .u64 0, .int .u64 0, .int .u64 0], .agg #[.int .u64 0, .int .u64 0, .int .u64 0, .int .u64 0], .int .u64 0], []⟩ 8 (by kernel_rfl) (by kernel_rfl) (by kernel_rfl) (by kernel_rfl)) ?_
  intro W base args ds gs before hval hW _ hsz _
  exact row_of_con (C := Try.checked) (fn := Try.f3) (s := Rows.int256DivFloorSpec) (ts := [(.cons .bool (.cons (.arr 4 (.int .u64)) .nil)), (.arr 4 (.int .u64)), (.int .u64)]) (F := pontagelaw3_Int256DivFloor) laidOut Try.func3 (by kernel_rfl) (by kernel_rfl) (by kernel_rfl) rfl Try.underlying4 rfl
    (fun ds h => match ds, h with | [_, _, _], _ => rfl) (ok3) (fun x h => match x with | (x, d, c, ()) => div_law x d c) base args ds gs before hval hW hsz
theorem over : Rows.int256DivFloorRow.holds Try.pinned (OpenSpec.ofChange Rows.int256DivFloorSpec) :=
  OpenClaim.holds_of_wide 3 Try.f3 rfl rfl rfl rfl rfl rfl rfl ⟨rfl, rfl, rfl, rfl, rfl⟩ rfl rfl rfl rfl rfl (by kernel_rfl) Try.func3 (by kernel_rfl)
    (of_decide_eq_true (by kernel_rfl)) (by unfold Func.isWrapper; first | (rw [if_pos (by decide +kernel)]; kernel_rfl) | (rw [if_neg (by decide +kernel)]; exact ⟨rfl, rfl⟩))
    (fun os started H enc _ => lifted os started H enc)
theorem proved : Rows.Int256DivFloorSaid := over
end Go.Proofs.Ythgamlcklidphaa.int256DivFloor
namespace Go.Proofs.Ythgamlcklidphaa
/-- The law holds. -/
theorem int256DivFloor_holds : Rows.Int256DivFloorSaid := int256DivFloor.proved
#print axioms int256DivFloor_holds
end Go.Proofs.Ythgamlcklidphaa
