/- The law TxFeeShares returns true at every input that its statement lets in. The conditions: none beyond those of the statement itself. -/
import Derived.Test.YtmjjppoaianfmaaRows
import Derived.WalkKit
import Derived.ProofKit
import Derived.Test.YtmjjppoaianfmaaPart6
import Derived.Test.YtmjjppoaianfmaaPart7
import Derived.Test.YtmjjppoaianfmaaPart3
namespace Go.Proofs.Ytmjjppoaianfmaa.txFeeShares
open Go.ChangeShapes Go.WideShapes Go.ChangeAt Go.RowKit Sym
theorem own : ownKnob Try.prog.godebug = none := by kernel_rfl
theorem laidOut : laidOutB Try.prog = true := by kernel_rfl
set_option maxRecDepth 100000 in
theorem lifted (os : Os) (started : os.Started) (H : Type) (enc : TypeId × Value → H) :
    ReturnsInHanded {} Try.checked os 10 .any (Rows.txFeeSharesSpec.pre6 enc Try.prog Try.f10 Rows.txFeeSharesRow.domain false) (Rows.txFeeSharesSpec.post enc Try.prog Try.f10 false true false false) := by
  refine returnsInHanded_of_change_sized (C := Try.checked) own started (by kernel_rfl) Try.func10
    (ChangeSpec.witness6 (enc := enc) (C := Try.checked) false ⟨#[], #[.agg #[.int .u64 0, .int .u64 0, .int .u64 0, .int .u64 0, .int .u64 0, .int .u64 0, .int .i64 0, .slice none 0 0], .agg #[.int .u64 0, .int .u64 0, .int .u64 0, .int .u64 0, .int .u64 0, .int .u64 0, .int .u64 0, .int .u64 0]], []⟩ 8 (by kernel_rfl) (by kernel_rfl) (by kernel_rfl) (by kernel_rfl)) ?_
  intro W base args ds gs before hval hW _ hsz _
  exact row_of_con (C := Try.checked) (fn := Try.f10) (s := Rows.txFeeSharesSpec) (ts := [(.cons (.int .u64) (.cons (.int .u64) (.cons (.int .u64) (.cons (.int .u64) (.cons (.int .u64) (.cons (.int .u64) (.cons (.int .i64) (.cons (.sl (.int .i64)) .nil)))))))), (.arr 8 (.int .u64))]) (F := pontagelaw23_TxFeeShares) laidOut Try.func10 (by kernel_rfl) (by kernel_rfl) (by kernel_rfl) rfl Try.underlying4 rfl
    (fun ds h => match ds, h with | [_, _], _ => rfl) (ok10) (fun x h => match x, h with | ((n0, n1, n2, n3, n4, n5, sh, d, ()), v, ()), h => shares_law n0 n1 n2 n3 n4 n5 sh d v h.1.2.2.2.2.2.2.2.1.1) base args ds gs before hval hW hsz
theorem over : Rows.txFeeSharesRow.holds Try.pinned (OpenSpec.ofChange Rows.txFeeSharesSpec) :=
  OpenClaim.holds_of_wide 10 Try.f10 rfl rfl rfl rfl rfl rfl rfl ⟨rfl, rfl, rfl, rfl, rfl⟩ rfl rfl rfl rfl rfl (by kernel_rfl) Try.func10 (by kernel_rfl)
    (of_decide_eq_true (by kernel_rfl)) (by unfold Func.isWrapper; first | (rw [if_pos (by decide +kernel)]; kernel_rfl) | (rw [if_neg (by decide +kernel)]; exact ⟨rfl, rfl⟩))
    (fun os started H enc _ => lifted os started H enc)
theorem proved : Rows.TxFeeSharesSaid := over
end Go.Proofs.Ytmjjppoaianfmaa.txFeeShares
namespace Go.Proofs.Ytmjjppoaianfmaa
/-- The law holds. -/
theorem txFeeShares_holds : Rows.TxFeeSharesSaid := txFeeShares.proved
#print axioms txFeeShares_holds
end Go.Proofs.Ytmjjppoaianfmaa
