/- The law PayoutComplete returns true at every input that its statement lets in. The conditions: none beyond those of the statement itself. -/
import Derived.Test.YtdnjkjfccdcfkaaRows
import Derived.WalkKit
import Derived.ProofKit
import Derived.Test.YtdnjkjfccdcfkaaPart6
import Derived.Test.YtdnjkjfccdcfkaaPart7
import Derived.Test.YtdnjkjfccdcfkaaPart3
namespace Go.Proofs.Ytdnjkjfccdcfkaa.payoutComplete
open Go.ChangeShapes Go.WideShapes Go.ChangeAt Go.RowKit Sym
theorem own : ownKnob Try.prog.godebug = none := by kernel_rfl
theorem laidOut : laidOutB Try.prog = true := by kernel_rfl
set_option maxRecDepth 100000 in
theorem lifted (os : Os) (started : os.Started) (H : Type) (enc : TypeId × Value → H) :
    ReturnsInHanded {} Try.checked os 7 .any (Rows.payoutCompleteSpec.pre6 enc Try.prog Try.f7 Rows.payoutCompleteRow.domain false) (Rows.payoutCompleteSpec.post enc Try.prog Try.f7 false true false false) := by
  refine returnsInHanded_of_change_sized (C := Try.checked) own started (by kernel_rfl) Try.func7
    (ChangeSpec.witness6 (enc := enc) (C := Try.checked) false ⟨#[], #[.slice none 0 0, .agg #[.int .u64 0, .int .u64 0, .int .u64 0, .int .u64 0], .int .u64 0], []⟩ 8 (by kernel_rfl) (by kernel_rfl) (by kernel_rfl) (by kernel_rfl)) ?_
  intro W base args ds gs before hval hW _ hsz _
  exact row_of_con (C := Try.checked) (fn := Try.f7) (s := Rows.payoutCompleteSpec) (ts := [(.sl (.cons (.int .i64) (.cons (.int .u64) (.cons (.arr 4 (.int .u64)) (.cons (.arr 4 (.int .u64)) (.cons .bool (.cons .bool (.cons (.int .u64) .nil)))))))), (.arr 4 (.int .u64)), (.int .u64)]) (F := pontagelaw20_PayoutComplete) laidOut Try.func7 (by kernel_rfl) (by kernel_rfl) (by kernel_rfl) rfl Try.underlying4 rfl
    (fun ds h => match ds, h with | [_, _, _], _ => rfl) (ok7) (fun x h => match x, h with | (d, pool, few, ()), h => complete20_law d pool few h.1.1) base args ds gs before hval hW hsz
theorem over : Rows.payoutCompleteRow.holds Try.pinned (OpenSpec.ofChange Rows.payoutCompleteSpec) :=
  OpenClaim.holds_of_wide 7 Try.f7 rfl rfl rfl rfl rfl rfl rfl ⟨rfl, rfl, rfl, rfl, rfl⟩ rfl rfl rfl rfl rfl (by kernel_rfl) Try.func7 (by kernel_rfl)
    (of_decide_eq_true (by kernel_rfl)) (by unfold Func.isWrapper; first | (rw [if_pos (by decide +kernel)]; kernel_rfl) | (rw [if_neg (by decide +kernel)]; exact ⟨rfl, rfl⟩))
    (fun os started H enc _ => lifted os started H enc)
theorem proved : Rows.PayoutCompleteSaid := over
end Go.Proofs.Ytdnjkjfccdcfkaa.payoutComplete
namespace Go.Proofs.Ytdnjkjfccdcfkaa
/-- The law holds. -/
theorem payoutComplete_holds : Rows.PayoutCompleteSaid := payoutComplete.proved
#print axioms payoutComplete_holds
end Go.Proofs.Ytdnjkjfccdcfkaa
