/- The law DebtqueuePermutation returns true at every input that its statement lets in. The conditions: none beyond those of the statement itself. -/
import Derived.Test.YthnlgkfeopoohaaRows
import Derived.WalkKit
import Derived.ProofKit
import Derived.Test.YthnlgkfeopoohaaPart4
import Derived.Test.YthnlgkfeopoohaaPart3
namespace Go.Proofs.Ythnlgkfeopoohaa.debtqueuePermutation
open Go.ChangeShapes Go.WideShapes Go.ChangeAt Go.RowKit Sym
theorem own : ownKnob Try.prog.godebug = none := by kernel_rfl
theorem laidOut : laidOutB Try.prog = true := by kernel_rfl
set_option maxRecDepth 100000 in
theorem lifted (os : Os) (started : os.Started) (H : Type) (enc : TypeId × Value → H) :
    ReturnsInHanded {} Try.checked os 8 .any (Rows.debtqueuePermutationSpec.pre6 enc Try.prog Try.f8 Rows.debtqueuePermutationRow.domain false) (Rows.debtqueuePermutationSpec.post enc Try.prog Try.f8 false true false false) := by
  refine returnsInHanded_of_change_sized (C := Try.checked) own started (by kernel_rfl) Try.func8
    (ChangeSpec.witness6 (enc := enc) (C := Try.checked) false ⟨#[], #[.slice none 0 0], []⟩ 8 (by kernel_rfl) (by kernel_rfl) (by kernel_rfl) (by kernel_rfl)) ?_
  intro W base args ds gs before hval hW _ hsz _
  exact row_of_con (C := Try.checked) (fn := Try.f8) (s := Rows.debtqueuePermutationSpec) (ts := [(.sl (.cons (.int .u64) (.cons (.arr 4 (.int .u64)) (.cons (.arr 4 (.int .u64)) (.cons (.arr 4 (.int .u64)) (.cons (.arr 4 (.int .u64)) (.cons (.int .u64) .nil)))))))]) (F := pontagelaw17_DebtqueuePermutation) laidOut Try.func8 (by kernel_rfl) (by kernel_rfl) (by kernel_rfl) rfl Try.underlying4 rfl
    (fun ds h => match ds, h with | [_], _ => rfl) (ok8) (fun x h => match x, h with | (l, ()), h => permutation_law l h.1.1) base args ds gs before hval hW hsz
theorem over : Rows.debtqueuePermutationRow.holds Try.pinned (OpenSpec.ofChange Rows.debtqueuePermutationSpec) :=
  OpenClaim.holds_of_wide 8 Try.f8 rfl rfl rfl rfl rfl rfl rfl ⟨rfl, rfl, rfl, rfl, rfl⟩ rfl rfl rfl rfl rfl (by kernel_rfl) Try.func8 (by kernel_rfl)
    (of_decide_eq_true (by kernel_rfl)) (by unfold Func.isWrapper; first | (rw [if_pos (by decide +kernel)]; kernel_rfl) | (rw [if_neg (by decide +kernel)]; exact ⟨rfl, rfl⟩))
    (fun os started H enc _ => lifted os started H enc)
theorem proved : Rows.DebtqueuePermutationSaid := over
end Go.Proofs.Ythnlgkfeopoohaa.debtqueuePermutation
namespace Go.Proofs.Ythnlgkfeopoohaa
/-- The law holds. -/
theorem debtqueuePermutation_holds : Rows.DebtqueuePermutationSaid := debtqueuePermutation.proved
#print axioms debtqueuePermutation_holds
end Go.Proofs.Ythnlgkfeopoohaa
