/- The law TxfeeGasPriceBounds returns true at every input that its statement lets in. The conditions: none beyond those of the statement itself. -/
import Derived.Test.YthnlgkfeopoohaaRows
import Derived.WalkKit
import Derived.ProofKit
import Derived.Test.YthnlgkfeopoohaaPart3
namespace Go.Proofs.Ythnlgkfeopoohaa.txfeeGasPriceBounds
open Go.ChangeShapes Go.WideShapes Go.ChangeAt Go.RowKit Sym
theorem own : ownKnob Try.prog.godebug = none := by kernel_rfl
theorem laidOut : laidOutB Try.prog = true := by kernel_rfl
set_option maxRecDepth 100000 in
theorem lifted (os : Os) (started : os.Started) (H : Type) (enc : TypeId × Value → H) :
    ReturnsInHanded {} Try.checked os 3 .any (Rows.txfeeGasPriceBoundsSpec.pre6 enc Try.prog Try.f3 Rows.txfeeGasPriceBoundsRow.domain false) (Rows.txfeeGasPriceBoundsSpec.post enc Try.prog Try.f3 false true false false) := by
  refine returnsInHanded_of_change_sized (C := Try.checked) own started (by kernel_rfl) Try.func3
    (ChangeSpec.witness6 (enc := enc) (C := Try.checked) false ⟨#[], #[.agg #[.int .u64 0, .int .u64 0, .int .u64 0, .int .u64 0, .int .u64 0, .int .u64 0, .int .i64 0, .slice none 0 0], .int .u64 0], []⟩ 8 (by kernel_rfl) (by kernel_rfl) (by kernel_rfl) (by kernel_rfl)) ?_
  intro W base args ds gs before hval hW _ hsz _
  exact row_of_con (C := Try.checked) (fn := Try.f3) (s := Rows.txfeeGasPriceBoundsSpec) (ts := [(.cons (.int .u64) (.cons (.int .u64) (.cons (.int .u64) (.cons (.int .u64) (.cons (.int .u64) (.cons (.int .u64) (.cons (.int .i64) (.cons (.sl (.int .i64)) .nil)))))))), (.int .u64)]) (F := pontagelaw23_TxfeeGasPriceBounds) laidOut Try.func3 (by kernel_rfl) (by kernel_rfl) (by kernel_rfl) rfl Try.underlying4 rfl
    (fun ds h => match ds, h with | [_, _], _ => rfl) (ok3) (fun x h => match x, h with | ((n0, n1, n2, n3, n4, n5, sh, d, ()), more, ()), h => gas_law n0 n1 n2 n3 n4 n5 sh d more h.1.2.2.2.2.2.2.2.1.1) base args ds gs before hval hW hsz
theorem over : Rows.txfeeGasPriceBoundsRow.holds Try.pinned (OpenSpec.ofChange Rows.txfeeGasPriceBoundsSpec) :=
  OpenClaim.holds_of_wide 3 Try.f3 rfl rfl rfl rfl rfl rfl rfl ⟨rfl, rfl, rfl, rfl, rfl⟩ rfl rfl rfl rfl rfl (by kernel_rfl) Try.func3 (by kernel_rfl)
    (of_decide_eq_true (by kernel_rfl)) (by unfold Func.isWrapper; first | (rw [if_pos (by decide +kernel)]; kernel_rfl) | (rw [if_neg (by decide +kernel)]; exact ⟨rfl, rfl⟩))
    (fun os started H enc _ => lifted os started H enc)
theorem proved : Rows.TxfeeGasPriceBoundsSaid := over
end Go.Proofs.Ythnlgkfeopoohaa.txfeeGasPriceBounds
namespace Go.Proofs.Ythnlgkfeopoohaa
/-- The law holds. -/
theorem txfeeGasPriceBounds_holds : Rows.TxfeeGasPriceBoundsSaid := txfeeGasPriceBounds.proved
#print axioms txfeeGasPriceBounds_holds
end Go.Proofs.Ythnlgkfeopoohaa
