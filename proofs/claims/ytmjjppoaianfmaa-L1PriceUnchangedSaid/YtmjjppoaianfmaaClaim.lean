/- The law L1PriceUnchanged returns true at every input that its statement lets in. The conditions: none beyond those of the statement itself. -/
import Derived.Test.YtmjjppoaianfmaaRows
import Derived.WalkKit
import Derived.ProofKit
import Derived.Test.YtmjjppoaianfmaaPart5
import Derived.Test.YtmjjppoaianfmaaPart3
namespace Go.Proofs.Ytmjjppoaianfmaa.l1PriceUnchanged
open Go.ChangeShapes Go.WideShapes Go.ChangeAt Go.RowKit Sym
theorem own : ownKnob Try.prog.godebug = none := by kernel_rfl
theorem laidOut : laidOutB Try.prog = true := by kernel_rfl
set_option maxRecDepth 100000 in
theorem lifted (os : Os) (started : os.Started) (H : Type) (enc : TypeId × Value → H) :
    ReturnsInHanded {} Try.checked os 5 .any (Rows.l1PriceUnchangedSpec.pre6 enc Try.prog Try.f5 Rows.l1PriceUnchangedRow.domain false) (Rows.l1PriceUnchangedSpec.post enc Try.prog Try.f5 false true false false) := by
  refine returnsInHanded_of_change_sized (C := Try.checked) own started (by kernel_rfl) Try.func5
    (ChangeSpec.witness6 (enc := enc) (C := Try.checked) false ⟨#[], #[.agg #[.int .u64 0, .int .u64 0, .int .u64 0, .int .u64 0], .agg #[.bool false, .int .u64 0, .int .u64 0, .int .u64 0, .int .u64 0], .agg #[.bool false, .int .u64 0, .int .u64 0, .int .u64 0, .int .u64 0], .int .u64 0, .agg #[.int .u64 0, .int .u64 0, .int .u64 0, .int .u64 0, .int .u64 0, .int .u64 0, .int .u64 0, .int .u64 0]], []⟩ 8 (by kernel_rfl) (by kernel_rfl) (by kernel_rfl) (by kernel_rfl)) ?_
  intro W base args ds gs before hval hW _ hsz _
  exact row_of_con (C := Try.checked) (fn := Try.f5) (s := Rows.l1PriceUnchangedSpec) (ts := [(.arr 4 (.int .u64)), (.cons .bool (.cons (.arr 4 (.int .u64)) .nil)), (.cons .bool (.cons (.arr 4 (.int .u64)) .nil)), (.int .u64), (.arr 8 (.int .u64))]) (F := pontagelaw19_L1PriceUnchanged) laidOut Try.func5 (by kernel_rfl) (by kernel_rfl) (by kernel_rfl) rfl Try.underlying4 rfl
    (fun ds h => match ds, h with | [_, _, _, _, _], _ => rfl) (ok5) (fun x h => match x with | (c, a, b, u, v, ()) => unchanged_law c a b u v) base args ds gs before hval hW hsz
theorem over : Rows.l1PriceUnchangedRow.holds Try.pinned (OpenSpec.ofChange Rows.l1PriceUnchangedSpec) :=
  OpenClaim.holds_of_wide 5 Try.f5 rfl rfl rfl rfl rfl rfl rfl ⟨rfl, rfl, rfl, rfl, rfl⟩ rfl rfl rfl rfl rfl (by kernel_rfl) Try.func5 (by kernel_rfl)
    (of_decide_eq_true (by kernel_rfl)) (by unfold Func.isWrapper; first | (rw [if_pos (by decide +kernel)]; kernel_rfl) | (rw [if_neg (by decide +kernel)]; exact ⟨rfl, rfl⟩))
    (fun os started H enc _ => lifted os started H enc)
theorem proved : Rows.L1PriceUnchangedSaid := over
end Go.Proofs.Ytmjjppoaianfmaa.l1PriceUnchanged
namespace Go.Proofs.Ytmjjppoaianfmaa
/-- The law holds. -/
theorem l1PriceUnchanged_holds : Rows.L1PriceUnchangedSaid := l1PriceUnchanged.proved
#print axioms l1PriceUnchanged_holds
end Go.Proofs.Ytmjjppoaianfmaa
