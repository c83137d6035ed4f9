/- The law DebtQueueComplete returns true at every input that its statement lets in. The conditions: none beyond those of the statement itself. -/
import Derived.Test.YthnlgkfeopoohaaRows
import Derived.WalkKit
import Derived.ProofKit
import Derived.Test.YthnlgkfeopoohaaPart4
import Derived.Test.YthnlgkfeopoohaaPart3
namespace Go.Proofs.Ythnlgkfeopoohaa.debtQueueComplete
open Go.ChangeShapes Go.WideShapes Go.ChangeAt Go.RowKit Sym
theorem own : ownKnob Try.prog.godebug = none := by kernel_rfl
theorem laidOut : laidOutB Try.prog = true := by kernel_rfl
set_option maxRecDepth 100000 in
theorem lifted (os : Os) (started : os.Started) (H : Type) (enc : TypeId × Value → H) :
    ReturnsInHanded {} Try.checked os 6 .any (Rows.debtQueueCompleteSpec.pre6 enc Try.prog Try.f6 Rows.debtQueueCompleteRow.domain false) (Rows.debtQueueCompleteSpec.post enc Try.prog Try.f6 false true false false) := by
  refine returnsInHanded_of_change_sized (C := Try.checked) own started (by kernel_rfl) Try.func6
    (ChangeSpec.witness6 (enc := enc) (C := Try.checked) false ⟨#[], #[.slice none 0 0, .int .i64 0], []⟩ 8 (by kernel_rfl) (by kernel_rfl) (by kernel_rfl) (by kernel_rfl)) ?_
  intro W base args ds gs before hval hW _ hsz _
  exact row_of_con (C := Try.checked) (fn := Try.f6) (s := Rows.debtQueueCompleteSpec) (ts := [(.sl (.cons (.int .u64) (.cons (.arr 4 (.int .u64)) (.cons (.arr 4 (.int .u64)) (.cons (.arr 4 (.int .u64)) (.cons (.arr 4 (.int .u64)) (.cons (.int .u64) .nil))))))), (.int .i64)]) (F := pontagelaw17_DebtQueueComplete) laidOut Try.func6 (by kernel_rfl) (by kernel_rfl) (by kernel_rfl) rfl Try.underlying4 rfl
    (fun ds h => match ds, h with | [_, _], _ => rfl) (ok6) (fun x h => match x, h with | (l, how, ()), h => complete_law l how h.1.1) base args ds gs before hval hW hsz
theorem over : Rows.debtQueueCompleteRow.holds Try.pinned (OpenSpec.ofChange Rows.debtQueueCompleteSpec) :=
  OpenClaim.holds_of_wide 6 Try.f6 rfl rfl rfl rfl rfl rfl rfl ⟨rfl, rfl, rfl, rfl, rfl⟩ rfl rfl rfl rfl rfl (by kernel_rfl) Try.func6 (by kernel_rfl)
    (of_decide_eq_true (by kernel_rfl)) (by unfold Func.isWrapper; first | (rw [if_pos (by decide +kernel)]; kernel_rfl) | (rw [if_neg (by decide +kernel)]; exact ⟨rfl, rfl⟩))
    (fun os started H enc _ => lifted os started H enc)
theorem proved : Rows.DebtQueueCompleteSaid := over
end Go.Proofs.Ythnlgkfeopoohaa.debtQueueComplete
namespace Go.Proofs.Ythnlgkfeopoohaa
/-- The law holds. -/
theorem debtQueueComplete_holds : Rows.DebtQueueCompleteSaid := debtQueueComplete.proved
#print axioms debtQueueComplete_holds
end Go.Proofs.Ythnlgkfeopoohaa
