/- The law PricerErrorOrder returns true at every input that its statement lets in. The conditions: none beyond those of the statement itself. -/
import Derived.Test.YtpeicefbediffaaRows
import Derived.WalkKit
import Derived.ProofKit
import Derived.Test.YtpeicefbediffaaPart4
import Derived.Test.YtpeicefbediffaaPart6
namespace Go.Proofs.Ytpeicefbediffaa.pricerErrorOrder
open Go.ChangeShapes Go.WideShapes Go.ChangeAt Go.RowKit Sym
theorem own : ownKnob Try.prog.godebug = none := by kernel_rfl
theorem laidOut : laidOutB Try.prog = true := by kernel_rfl
set_option maxRecDepth 100000 in
theorem lifted (os : Os) (started : os.Started) (H : Type) (enc : TypeId × Value → H) :
    ReturnsInHanded {} Try.checked os 4 .any (Rows.pricerErrorOrderSpec.pre6 enc Try.prog Try.f4 Rows.pricerErrorOrderRow.domain false) (Rows.pricerErrorOrderSpec.post enc Try.prog Try.f4 false true false false) := by
  refine returnsInHanded_of_change_sized (C := Try.checked) own started (by kernel_rfl) Try.func4
    (ChangeSpec.witness6 (enc := enc) (C := Try.checked) false ⟨#[], #[.int .u64 0, .int .u64 0, .int .u64 0, .agg #[.int .u64 0, .int .u64 0, .int .u64 0, .int .u64 0], .int .u64 0], []⟩ 8 (by kernel_rfl) (by kernel_rfl) (by kernel_rfl) (by kernel_rfl)) ?_
  intro W base args ds gs before hval hW _ hsz _
  exact row_of_con (C := Try.checked) (fn := Try.f4) (s := Rows.pricerErrorOrderSpec) (ts := [(.int .u64), (.int .u64), (.int .u64), (.arr 4 (.int .u64)), (.int .u64)]) (F := pontagelaw21_PricerErrorOrder) laidOut Try.func4 (by kernel_rfl) (by kernel_rfl) (by kernel_rfl) rfl Try.underlying4 rfl
    (fun ds h => match ds, h with | [_, _, _, _, _], _ => rfl) (ok4) ((fun x h => match x, h with | (a, u, n, c, last, ()), h => errorOrder_law a u n last c)) base args ds gs before hval hW hsz
theorem over : Rows.pricerErrorOrderRow.holds Try.pinned (OpenSpec.ofChange Rows.pricerErrorOrderSpec) :=
  OpenClaim.holds_of_wide 4 Try.f4 rfl rfl rfl rfl rfl rfl rfl ⟨rfl, rfl, rfl, rfl, rfl⟩ rfl rfl rfl rfl rfl (by kernel_rfl) Try.func4 (by kernel_rfl)
    (of_decide_eq_true (by kernel_rfl)) (by unfold Func.isWrapper; first | (rw [if_pos (by decide +kernel)]; kernel_rfl) | (rw [if_neg (by decide +kernel)]; exact ⟨rfl, rfl⟩))
    (fun os started H enc _ => lifted os started H enc)
theorem proved : Rows.PricerErrorOrderSaid := over
end Go.Proofs.Ytpeicefbediffaa.pricerErrorOrder
namespace Go.Proofs.Ytpeicefbediffaa
theorem pricerErrorOrder_holds : Rows.PricerErrorOrderSaid := pricerErrorOrder.proved
#print axioms pricerErrorOrder_holds
end Go.Proofs.Ytpeicefbediffaa
