/- The law PricerAccounting returns true at every input that its statement lets in. The conditions: none beyond those of the statement itself. -/
import Derived.Test.YtpeicefbediffaaRows
import Derived.WalkKit
import Derived.ProofKit
import Derived.Test.YtpeicefbediffaaPart4
import Derived.Test.YtpeicefbediffaaPart6
namespace Go.Proofs.Ytpeicefbediffaa.pricerAccounting
open Go.ChangeShapes Go.WideShapes Go.ChangeAt Go.RowKit Sym
theorem own : ownKnob Try.prog.godebug = none := by kernel_rfl
theorem laidOut : laidOutB Try.prog = true := by kernel_rfl
set_option maxRecDepth 100000 in
theorem lifted (os : Os) (started : os.Started) (H : Type) (enc : TypeId × Value → H) :
    ReturnsInHanded {} Try.checked os 6 .any (Rows.pricerAccountingSpec.pre6 enc Try.prog Try.f6 Rows.pricerAccountingRow.domain false) (Rows.pricerAccountingSpec.post enc Try.prog Try.f6 false true false false) := by
  refine returnsInHanded_of_change_sized (C := Try.checked) own started (by kernel_rfl) Try.func6
    (ChangeSpec.witness6 (enc := enc) (C := Try.checked) false ⟨#[], #[.slice none 0 0, .agg #[.int .u64 0, .int .u64 0, .int .u64 0, .int .u64 0, .int .u64 0, .int .u64 0, .int .u64 0, .int .u64 0]], []⟩ 8 (by kernel_rfl) (by kernel_rfl) (by kernel_rfl) (by kernel_rfl)) ?_
  intro W base args ds gs before hval hW _ hsz _
  exact row_of_con (C := Try.checked) (fn := Try.f6) (s := Rows.pricerAccountingSpec) (ts := [(.sl (.cons (.int .i64) (.cons (.int .u64) (.cons (.int .u64) (.cons (.arr 4 (.int .u64)) (.cons (.cons (.int .u64) (.cons (.int .u64) (.cons (.arr 4 (.int .u64)) .nil))) (.cons (.int .u64) (.cons .bool .nil)))))))), (.arr 8 (.int .u64))]) (F := pontagelaw21_PricerAccounting) laidOut Try.func6 (by kernel_rfl) (by kernel_rfl) (by kernel_rfl) rfl Try.underlying4 rfl
    (fun ds h => match ds, h with | [_, _], _ => rfl) (ok6) ((fun x h => match x, h with | (l, v, ()), h => accounting_law l v h.1.1)) base args ds gs before hval hW hsz
theorem over : Rows.pricerAccountingRow.holds Try.pinned (OpenSpec.ofChange Rows.pricerAccountingSpec) :=
  OpenClaim.holds_of_wide 6 Try.f6 rfl rfl rfl rfl rfl rfl rfl ⟨rfl, rfl, rfl, rfl, rfl⟩ rfl rfl rfl rfl rfl (by kernel_rfl) Try.func6 (by kernel_rfl)
    (of_decide_eq_true (by kernel_rfl)) (by unfold Func.isWrapper; first | (rw [if_pos (by decide +kernel)]; kernel_rfl) | (rw [if_neg (by decide +kernel)]; exact ⟨rfl, rfl⟩))
    (fun os started H enc _ => lifted os started H enc)
theorem proved : Rows.PricerAccountingSaid := over
end Go.Proofs.Ytpeicefbediffaa.pricerAccounting
namespace Go.Proofs.Ytpeicefbediffaa
theorem pricerAccounting_holds : Rows.PricerAccountingSaid := pricerAccounting.proved
#print axioms pricerAccounting_holds
end Go.Proofs.Ytpeicefbediffaa
