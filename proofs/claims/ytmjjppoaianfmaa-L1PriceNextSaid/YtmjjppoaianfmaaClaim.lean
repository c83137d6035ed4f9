/- The law L1PriceNext returns true at every input that its statement lets in. The conditions: none beyond those of the statement itself. -/
import Derived.Test.YtmjjppoaianfmaaRows
import Derived.WalkKit
import Derived.ProofKit
import Derived.Test.YtmjjppoaianfmaaPart6
import Derived.Test.YtmjjppoaianfmaaPart7
import Derived.Test.YtmjjppoaianfmaaPart3
namespace Go.Proofs.Ytmjjppoaianfmaa.l1PriceNext
open Go.ChangeShapes Go.WideShapes Go.ChangeAt Go.RowKit Sym
theorem own : ownKnob Try.prog.godebug = none := by kernel_rfl
theorem laidOut : laidOutB Try.prog = true := by kernel_rfl
set_option maxRecDepth 100000 in
theorem lifted (os : Os) (started : os.Started) (H : Type) (enc : TypeId × Value → H) :
    ReturnsInHanded {} Try.checked os 4 .any (Rows.l1PriceNextSpec.pre6 enc Try.prog Try.f4 Rows.l1PriceNextRow.domain false) (Rows.l1PriceNextSpec.post enc Try.prog Try.f4 false true false false) := by
  refine returnsInHanded_of_change_sized (C := Try.checked) own started (by kernel_rfl) Try.func4
    (ChangeSpec.witness6 (enc := enc) (C := Try.checked) false ⟨#[], #[.agg #[.int .u64 0, .int .u64 0, .int .u64 0, .int .u64 0], .agg #[.bool false, .int .u64 0, .int .u64 0, .int .u64 0, .int .u64 0], .agg #[.bool false, .int .u64 0, .int .u64 0, .int .u64 0, .int .u64 0], .int .u64 0, .agg #[.int .u64 0, .int .u64 0, .int .u64 0, .int .u64 0, .int .u64 0, .int .u64 0, .int .u64 0, .int .u64 0, .int .u64 0, .int .u64 0, .int .u64 0, .int .u64 0, .int .u64 0, .int .u64 0, .int .u64 0, .int .u64 0, .int .u64 0, .int .u64 0, .int .u64 0, .int .u64 0, .int .u64 0], .agg #[.int .u64 0, .int .u64 0, .int .u64 0, .int .u64 0, .int .u64 0, .int .u64 0, .int .u64 0, .int .u64 0], .int .u64 0, .int .u64 0, .int .u64 0, .bool false, .bool false], []⟩ 8 (by kernel_rfl) (by kernel_rfl) (by kernel_rfl) (by kernel_rfl)) ?_
  intro W base args ds gs before hval hW _ hsz _
  exact row_of_con (C := Try.checked) (fn := Try.f4) (s := Rows.l1PriceNextSpec) (ts := [(.arr 4 (.int .u64)), (.cons .bool (.cons (.arr 4 (.int .u64)) .nil)), (.cons .bool (.cons (.arr 4 (.int .u64)) .nil)), (.int .u64), (.cons (.int .u64) (.cons (.int .u64) (.cons (.int .u64) (.cons (.arr 4 (.int .u64)) (.cons (.int .u64) (.cons (.arr 4 (.int .u64)) (.cons (.int .u64) (.cons (.arr 4 (.int .u64)) (.cons (.int .u64) (.cons (.int .u64) (.cons (.int .u64) (.cons (.int .u64) .nil)))))))))))), (.arr 8 (.int .u64)), (.int .u64), (.int .u64), (.int .u64), .bool, .bool]) (F := pontagelaw19_L1PriceNext) laidOut Try.func4 (by kernel_rfl) (by kernel_rfl) (by kernel_rfl) rfl Try.underlying4 rfl
    (fun ds h => match ds, h with | [_, _, _, _, _, _, _, _, _, _, _], _ => rfl) (ok4) (fun x h => match x with | (c, a, b, u, p, v, f, g, i, n, m, ()) => next_law c a b u p v f g i n m) base args ds gs before hval hW hsz
theorem over : Rows.l1PriceNextRow.holds Try.pinned (OpenSpec.ofChange Rows.l1PriceNextSpec) :=
  OpenClaim.holds_of_wide 4 Try.f4 rfl rfl rfl rfl rfl rfl rfl ⟨rfl, rfl, rfl, rfl, rfl⟩ rfl rfl rfl rfl rfl (by kernel_rfl) Try.func4 (by kernel_rfl)
    (of_decide_eq_true (by kernel_rfl)) (by unfold Func.isWrapper; first | (rw [if_pos (by decide +kernel)]; kernel_rfl) | (rw [if_neg (by decide +kernel)]; exact ⟨rfl, rfl⟩))
    (fun os started H enc _ => lifted os started H enc)
theorem proved : Rows.L1PriceNextSaid := over
end Go.Proofs.Ytmjjppoaianfmaa.l1PriceNext
namespace Go.Proofs.Ytmjjppoaianfmaa
/-- The law holds. -/
theorem l1PriceNext_holds : Rows.L1PriceNextSaid := l1PriceNext.proved
#print axioms l1PriceNext_holds
end Go.Proofs.Ytmjjppoaianfmaa
