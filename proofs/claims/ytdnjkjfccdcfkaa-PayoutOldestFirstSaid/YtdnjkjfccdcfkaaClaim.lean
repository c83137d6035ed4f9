/- The law PayoutOldestFirst returns true at every input that its statement lets in. The conditions: none beyond those of the statement itself. -/
import Derived.Test.YtdnjkjfccdcfkaaRows
import Derived.WalkKit
import Derived.ProofKit
import Derived.Test.YtdnjkjfccdcfkaaPart6
import Derived.Test.YtdnjkjfccdcfkaaPart7
import Derived.Test.YtdnjkjfccdcfkaaPart3
namespace Go.Proofs.Ytdnjkjfccdcfkaa.payoutOldestFirst
open Go.ChangeShapes Go.WideShapes Go.ChangeAt Go.RowKit Sym
theorem own : ownKnob Try.prog.godebug = none := by kernel_rfl
theorem laidOut : laidOutB Try.prog = true := by kernel_rfl
set_option maxRecDepth 100000 in
theorem lifted (os : Os) (started : os.Started) (H : Type) (enc : TypeId × Value → H) :
    ReturnsInHanded {} Try.checked os 5 .any (Rows.payoutOldestFirstSpec.pre6 enc Try.prog Try.f5 Rows.payoutOldestFirstRow.domain false) (Rows.payoutOldestFirstSpec.post enc Try.prog Try.f5 false true false false) := by
  refine returnsInHanded_of_change_sized (C := Try.checked) own started (by kernel_rfl) Try.func5
    (ChangeSpec.witness6 (enc := enc) (C := Try.checked) false ⟨#[], #[.slice none 0 0, .int .u64 0], []⟩ 8 (by kernel_rfl) (by kernel_rfl) (by kernel_rfl) (by kernel_rfl)) ?_
  intro W base args ds gs before hval hW _ hsz _
  exact row_of_con (C := Try.checked) (fn := Try.f5) (s := Rows.payoutOldestFirstSpec) (ts := [(.sl (.cons (.int .i64) (.cons (.int .u64) (.cons (.arr 4 (.int .u64)) (.cons (.arr 4 (.int .u64)) (.cons .bool (.cons .bool (.cons (.int .u64) .nil)))))))), (.int .u64)]) (F := pontagelaw20_PayoutOldestFirst) laidOut Try.func5 (by kernel_rfl) (by kernel_rfl) (by kernel_rfl) rfl Try.underlying4 rfl
    (fun ds h => match ds, h with | [_, _], _ => rfl) (ok5) (fun x h => match x, h with | (d, few, ()), h => oldest_law d few h.1.1) base args ds gs before hval hW hsz
theorem over : Rows.payoutOldestFirstRow.holds Try.pinned (OpenSpec.ofChange Rows.payoutOldestFirstSpec) :=
  OpenClaim.holds_of_wide 5 Try.f5 rfl rfl rfl rfl rfl rfl rfl ⟨rfl, rfl, rfl, rfl, rfl⟩ rfl rfl rfl rfl rfl (by kernel_rfl) Try.func5 (by kernel_rfl)
    (of_decide_eq_true (by kernel_rfl)) (by unfold Func.isWrapper; first | (rw [if_pos (by decide +kernel)]; kernel_rfl) | (rw [if_neg (by decide +kernel)]; exact ⟨rfl, rfl⟩))
    (fun os started H enc _ => lifted os started H enc)
theorem proved : Rows.PayoutOldestFirstSaid := over
end Go.Proofs.Ytdnjkjfccdcfkaa.payoutOldestFirst
namespace Go.Proofs.Ytdnjkjfccdcfkaa
/-- The law holds. -/
theorem payoutOldestFirst_holds : Rows.PayoutOldestFirstSaid := payoutOldestFirst.proved
#print axioms payoutOldestFirst_holds
end Go.Proofs.Ytdnjkjfccdcfkaa
