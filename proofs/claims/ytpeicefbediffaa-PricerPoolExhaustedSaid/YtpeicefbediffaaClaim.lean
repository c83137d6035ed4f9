/- The law PricerPoolExhausted returns true at every input that its statement lets in. The conditions: none beyond those of the statement itself. -/
import Derived.Test.YtpeicefbediffaaRows
import Derived.WalkKit
import Derived.ProofKit
import Derived.Test.YtpeicefbediffaaPart4
import Derived.Test.YtpeicefbediffaaPart6
namespace Go.Proofs.Ytpeicefbediffaa.pricerPoolExhausted
open Go.ChangeShapes Go.WideShapes Go.ChangeAt Go.RowKit Sym
theorem own : ownKnob Try.prog.godebug = none := by kernel_rfl
theorem laidOut : laidOutB Try.prog = true := by kernel_rfl
set_option maxRecDepth 100000 in
theorem lifted (os : Os) (started : os.Started) (H : Type) (enc : TypeId × Value → H) :
    ReturnsInHanded {} Try.checked os 3 .any (Rows.pricerPoolExhaustedSpec.pre6 enc Try.prog Try.f3 Rows.pricerPoolExhaustedRow.domain false) (Rows.pricerPoolExhaustedSpec.post enc Try.prog Try.f3 false true false false) := by
  refine returnsInHanded_of_change_sized (C := Try.checked) own started (by kernel_rfl) Try.func3
    (ChangeSpec.witness6 (enc := enc) (C := Try.checked) false ⟨#[], #[.slice none 0 0, .agg #[.int .u64 0, .int .u64 0, .int .u64 0, .int .u64 0, .int .u64 0, .int .u64 0, .int .u64 0, .int .u64 0]], []⟩ 8 (by kernel_rfl) (by kernel_rfl) (by kernel_rfl) (by kernel_rfl)) ?_
  intro W base args ds gs before hval hW _ hsz _
  exact row_of_con (C := Try.checked) (fn := Try.f3) (s := Rows.pricerPoolExhaustedSpec) (ts := [(.sl (.cons (.int .i64) (.cons (.int .u64) (.cons (.int .u64) (.cons (.arr 4 (.int .u64)) (.cons (.cons (.int .u64) (.cons (.int .u64) (.cons (.arr 4 (.int .u64)) .nil))) (.cons (.int .u64) (.cons .bool .nil)))))))), (.arr 8 (.int .u64))]) (F := pontagelaw21_PricerPoolExhausted) laidOut Try.func3 (by kernel_rfl) (by kernel_rfl) (by kernel_rfl) rfl Try.underlying4 rfl
    (fun ds h => match ds, h with | [_, _], _ => rfl) (ok3) ((fun x h => match x, h with | (l, v, ()), h => exhausted_law l v h.1.1)) base args ds gs before hval hW hsz
theorem over : Rows.pricerPoolExhaustedRow.holds Try.pinned (OpenSpec.ofChange Rows.pricerPoolExhaustedSpec) :=
  OpenClaim.holds_of_wide 3 Try.f3 rfl rfl rfl rfl rfl rfl rfl ⟨rfl, rfl, rfl, rfl, rfl⟩ rfl rfl rfl rfl rfl (by kernel_rfl) Try.func3 (by kernel_rfl)
    (of_decide_eq_true (by kernel_rfl)) (by unfold Func.isWrapper; first | (rw [if_pos (by decide +kernel)]; kernel_rfl) | (rw [if_neg (by decide +kernel)]; exact ⟨rfl, rfl⟩))
    (fun os started H enc _ => lifted os started H enc)
theorem proved : Rows.PricerPoolExhaustedSaid := over
end Go.Proofs.Ytpeicefbediffaa.pricerPoolExhausted
namespace Go.Proofs.Ytpeicefbediffaa
theorem pricerPoolExhausted_holds : Rows.PricerPoolExhaustedSaid := pricerPoolExhausted.proved
#print axioms pricerPoolExhausted_holds
end Go.Proofs.Ytpeicefbediffaa
