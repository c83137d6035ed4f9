/- The law TxFeeCompute returns true at every input that its statement lets in. The conditions: none beyond those of the statement itself. -/
import Derived.Test.YtmjjppoaianfmaaRows
import Derived.WalkKit
import Derived.ProofKit
import Derived.Test.YtmjjppoaianfmaaPart6
import Derived.Test.YtmjjppoaianfmaaPart7
import Derived.Test.YtmjjppoaianfmaaPart3
namespace Go.Proofs.Ytmjjppoaianfmaa.txFeeCompute
open Go.ChangeShapes Go.WideShapes Go.ChangeAt Go.RowKit Sym
theorem own : ownKnob Try.prog.godebug = none := by kernel_rfl
theorem laidOut : laidOutB Try.prog = true := by kernel_rfl
set_option maxRecDepth 100000 in
theorem lifted (os : Os) (started : os.Started) (H : Type) (enc : TypeId × Value → H) :
    ReturnsInHanded {} Try.checked os 9 .any (Rows.txFeeComputeSpec.pre6 enc Try.prog Try.f9 Rows.txFeeComputeRow.domain false) (Rows.txFeeComputeSpec.post enc Try.prog Try.f9 false true false false) := by
  refine returnsInHanded_of_change_sized (C := Try.checked) own started (by kernel_rfl) Try.func9
    (ChangeSpec.witness6 (enc := enc) (C := Try.checked) false ⟨#[], #[.agg #[.int .u64 0, .int .u64 0, .int .u64 0, .int .u64 0, .int .u64 0, .int .u64 0, .int .u64 0, .int .u64 0, .int .u64 0, .int .u64 0, .int .u64 0, .int .u64 0, .int .u64 0, .int .u64 0, .int .u64 0, .int .u64 0, .int .u64 0, .slice none 0 0], .agg #[.int .u64 0, .int .u64 0, .int .u64 0, .int .u64 0], .agg #[.int .u64 0, .int .u64 0, .int .u64 0, .int .u64 0], .agg #[.int .u64 0, .int .u64 0, .int .u64 0, .int .u64 0, .int .u64 0, .int .u64 0, .int .u64 0, .int .u64 0, .int .u64 0, .int .u64 0, .int .u64 0, .int .u64 0, .int .u64 0, .int .u64 0, .int .u64 0, .int .u64 0, .int .u64 0, .int .u64 0, .int .u64 0, .int .u64 0, .int .u64 0], .agg #[.int .u64 0, .int .u64 0, .int .u64 0, .int .u64 0, .int .u64 0, .int .u64 0, .int .i64 0, .slice none 0 0], .agg #[.int .u64 0, .int .u64 0, .int .u64 0, .int .u64 0, .int .u64 0, .int .u64 0, .int .u64 0, .int .u64 0]], []⟩ 8 (by kernel_rfl) (by kernel_rfl) (by kernel_rfl) (by kernel_rfl)) ?_
  intro W base args ds gs before hval hW _ hsz _
  exact row_of_con (C := Try.checked) (fn := Try.f9) (s := Rows.txFeeComputeSpec) (ts := [(.cons (.int .u64) (.cons (.int .u64) (.cons (.int .u64) (.cons (.arr 4 (.int .u64)) (.cons (.int .u64) (.cons (.arr 4 (.int .u64)) (.cons (.arr 4 (.int .u64)) (.cons (.int .u64) (.cons (.sl (.int .u8)) .nil))))))))), (.arr 4 (.int .u64)), (.arr 4 (.int .u64)), (.cons (.int .u64) (.cons (.int .u64) (.cons (.int .u64) (.cons (.arr 4 (.int .u64)) (.cons (.int .u64) (.cons (.arr 4 (.int .u64)) (.cons (.int .u64) (.cons (.arr 4 (.int .u64)) (.cons (.int .u64) (.cons (.int .u64) (.cons (.int .u64) (.cons (.int .u64) .nil)))))))))))), (.cons (.int .u64) (.cons (.int .u64) (.cons (.int .u64) (.cons (.int .u64) (.cons (.int .u64) (.cons (.int .u64) (.cons (.int .i64) (.cons (.sl (.int .i64)) .nil)))))))), (.arr 8 (.int .u64))]) (F := pontagelaw23_TxFeeCompute) laidOut Try.func9 (by kernel_rfl) (by kernel_rfl) (by kernel_rfl) rfl Try.underlying4 rfl
    (fun ds h => match ds, h with | [_, _, _, _, _, _], _ => rfl) (ok9) (fun x h => match x, h with | (t, base, unit, p, (n0, n1, n2, n3, n4, n5, sh, d, ()), v, ()), h => compute_law t base unit p n0 n1 n2 n3 n4 n5 sh d v h.2.2.2.2.1.2.2.2.2.2.2.2.1.1 h.1.2.2.2.2.2.2.2.2.1.1) base args ds gs before hval hW hsz
theorem over : Rows.txFeeComputeRow.holds Try.pinned (OpenSpec.ofChange Rows.txFeeComputeSpec) :=
  OpenClaim.holds_of_wide 9 Try.f9 rfl rfl rfl rfl rfl rfl rfl ⟨rfl, rfl, rfl, rfl, rfl⟩ rfl rfl rfl rfl rfl (by kernel_rfl) Try.func9 (by kernel_rfl)
    (of_decide_eq_true (by kernel_rfl)) (by unfold Func.isWrapper; first | (rw [if_pos (by decide +kernel)]; kernel_rfl) | (rw [if_neg (by decide +kernel)]; exact ⟨rfl, rfl⟩))
    (fun os started H enc _ => lifted os started H enc)
theorem proved : Rows.TxFeeComputeSaid := over
end Go.Proofs.Ytmjjppoaianfmaa.txFeeCompute
namespace Go.Proofs.Ytmjjppoaianfmaa
/-- The law holds. -/
theorem txFeeCompute_holds : Rows.TxFeeComputeSaid := txFeeCompute.proved
#print axioms txFeeCompute_holds
end Go.Proofs.Ytmjjppoaianfmaa
