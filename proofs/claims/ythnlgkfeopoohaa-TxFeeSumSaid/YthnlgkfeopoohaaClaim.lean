/- The law TxFeeSum returns true at every input that its statement lets in. The conditions: none beyond those of the statement itself. -/
import Derived.Test.YthnlgkfeopoohaaRows
import Derived.WalkKit
import Derived.ProofKit
import Derived.Test.YthnlgkfeopoohaaPart3
namespace Go.Proofs.Ythnlgkfeopoohaa.txFeeSum
open Go.ChangeShapes Go.WideShapes Go.ChangeAt Go.RowKit Sym
theorem own : ownKnob Try.prog.godebug = none := by kernel_rfl
theorem laidOut : laidOutB Try.prog = true := by kernel_rfl
set_option maxRecDepth 100000 in
theorem lifted (os : Os) (started : os.Started) (H : Type) (enc : TypeId × Value → H) :
    ReturnsInHanded {} Try.checked os 4 .any (Rows.txFeeSumSpec.pre6 enc Try.prog Try.f4 Rows.txFeeSumRow.domain false) (Rows.txFeeSumSpec.post enc Try.prog Try.f4 false true false false) := by
  refine returnsInHanded_of_change_sized (C := Try.checked) own started (by kernel_rfl) Try.func4
    (ChangeSpec.witness6 (enc := enc) (C := Try.checked) false ⟨#[], #[.agg #[.int .u64 0, .int .u64 0, .int .u64 0, .int .u64 0, .bool false, .int .u64 0, .int .u64 0, .int .u64 0, .int .u64 0, .int .u64 0, .int .u64 0, .int .u64 0, .int .u64 0, .int .u64 0, .int .u64 0, .int .u64 0, .int .u64 0, .int .u64 0, .int .u64 0, .int .u64 0, .int .u64 0, .int .u64 0, .int .u64 0, .int .u64 0, .int .u64 0], .agg #[.int .u64 0, .int .u64 0, .int .u64 0, .int .u64 0]], []⟩ 8 (by kernel_rfl) (by kernel_rfl) (by kernel_rfl) (by kernel_rfl)) ?_
  intro W base args ds gs before hval hW _ hsz _
  exact row_of_con (C := Try.checked) (fn := Try.f4) (s := Rows.txFeeSumSpec) (ts := [(.cons (.int .u64) (.cons (.int .u64) (.cons (.int .u64) (.cons (.int .u64) (.cons .bool (.cons (.arr 4 (.int .u64)) (.cons (.arr 4 (.int .u64)) (.cons (.arr 4 (.int .u64)) (.cons (.arr 4 (.int .u64)) (.cons (.arr 4 (.int .u64)) .nil)))))))))), (.arr 4 (.int .u64))]) (F := pontagelaw23_TxFeeSum) laidOut Try.func4 (by kernel_rfl) (by kernel_rfl) (by kernel_rfl) rfl Try.underlying4 rfl
    (fun ds h => match ds, h with | [_, _], _ => rfl) (ok4) (fun x h => match x with | ((f1, f2, f3, f4, f5, t, p, q, r, s, ()), (b0, b1, b2, b3, ()), ()) => sum_law f1 f2 f3 f4 f5 t p q r s b0 b1 b2 b3) base args ds gs before hval hW hsz
theorem over : Rows.txFeeSumRow.holds Try.pinned (OpenSpec.ofChange Rows.txFeeSumSpec) :=
  OpenClaim.holds_of_wide 4 Try.f4 rfl rfl rfl rfl rfl rfl rfl ⟨rfl, rfl, rfl, rfl, rfl⟩ rfl rfl rfl rfl rfl (by kernel_rfl) Try.func4 (by kernel_rfl)
    (of_decide_eq_true (by kernel_rfl)) (by unfold Func.isWrapper; first | (rw [if_pos (by decide +kernel)]; kernel_rfl) | (rw [if_neg (by decide +kernel)]; exact ⟨rfl, rfl⟩))
    (fun os started H enc _ => lifted os started H enc)
theorem proved : Rows.TxFeeSumSaid := over
end Go.Proofs.Ythnlgkfeopoohaa.txFeeSum
namespace Go.Proofs.Ythnlgkfeopoohaa
/-- The law holds. -/
theorem txFeeSum_holds : Rows.TxFeeSumSaid := txFeeSum.proved
#print axioms txFeeSum_holds
end Go.Proofs.Ythnlgkfeopoohaa
