/- The law DebtQueueEmpty returns true at every input that its statement lets in. The conditions: none beyond those of the statement itself. -/
import Derived.Test.YthnlgkfeopoohaaRows
import Derived.WalkKit
import Derived.ProofKit
import Derived.Test.YthnlgkfeopoohaaPart4
import Derived.Test.YthnlgkfeopoohaaPart3
namespace Go.Proofs.Ythnlgkfeopoohaa.debtQueueEmpty
open Go.ChangeShapes Go.WideShapes Go.ChangeAt Go.RowKit Sym
theorem own : ownKnob Try.prog.godebug = none := by kernel_rfl
theorem laidOut : laidOutB Try.prog = true := by kernel_rfl
set_option maxRecDepth 100000 in
theorem lifted (os : Os) (started : os.Started) (H : Type) (enc : TypeId × Value → H) :
    ReturnsInHanded {} Try.checked os 7 .any (Rows.debtQueueEmptySpec.pre6 enc Try.prog Try.f7 Rows.debtQueueEmptyRow.domain false) (Rows.debtQueueEmptySpec.post enc Try.prog Try.f7 false true false false) := by
  refine returnsInHanded_of_change_sized (C := Try.checked) own started (by kernel_rfl) Try.func7
    (ChangeSpec.witness6 (enc := enc) (C := Try.checked) false ⟨#[], #[.int .u64 0, .int .u64 0], []⟩ 8 (by kernel_rfl) (by kernel_rfl) (by kernel_rfl) (by kernel_rfl)) ?_
  intro W base args ds gs before hval hW _ hsz _
  exact row_of_con (C := Try.checked) (fn := Try.f7) (s := Rows.debtQueueEmptySpec) (ts := [(.int .u64), (.int .u64)]) (F := pontagelaw17_DebtQueueEmpty) laidOut Try.func7 (by kernel_rfl) (by kernel_rfl) (by kernel_rfl) rfl Try.underlying4 rfl
    (fun ds h => match ds, h with | [_, _], _ => rfl) (ok7) (fun x h => match x with | (a, b, ()) => empty_law a b) base args ds gs before hval hW hsz
theorem over : Rows.debtQueueEmptyRow.holds Try.pinned (OpenSpec.ofChange Rows.debtQueueEmptySpec) :=
  OpenClaim.holds_of_wide 7 Try.f7 rfl rfl rfl rfl rfl rfl rfl ⟨rfl, rfl, rfl, rfl, rfl⟩ rfl rfl rfl rfl rfl (by kernel_rfl) Try.func7 (by kernel_rfl)
    (of_decide_eq_true (by kernel_rfl)) (by unfold Func.isWrapper; first | (rw [if_pos (by decide +kernel)]; kernel_rfl) | (rw [if_neg (by decide +kernel)]; exact ⟨rfl, rfl⟩))
    (fun os started H enc _ => lifted os started H enc)
theorem proved : Rows.DebtQueueEmptySaid := over
end Go.Proofs.Ythnlgkfeopoohaa.debtQueueEmpty
namespace Go.Proofs.Ythnlgkfeopoohaa
/-- The law holds. -/
theorem debtQueueEmpty_holds : Rows.DebtQueueEmptySaid := debtQueueEmpty.proved
#print axioms debtQueueEmpty_holds
end Go.Proofs.Ythnlgkfeopoohaa
