/- The law L1PriceSurplus returns true at every input that its statement lets in. The conditions: none beyond those of the statement itself. -/
import Derived.Test.YtmjjppoaianfmaaRows
import Derived.WalkKit
import Derived.ProofKit
import Derived.Test.YtmjjppoaianfmaaPart5
import Derived.Test.YtmjjppoaianfmaaPart3
namespace Go.Proofs.Ytmjjppoaianfmaa.l1PriceSurplus
open Go.ChangeShapes Go.WideShapes Go.ChangeAt Go.RowKit Sym
theorem own : ownKnob Try.prog.godebug = none := by kernel_rfl
theorem laidOut : laidOutB Try.prog = true := by kernel_rfl
set_option maxRecDepth 100000 in
theorem lifted (os : Os) (started : os.Started) (H : Type) (enc : TypeId × Value → H) :
    ReturnsInHanded {} Try.checked os 7 .any (Rows.l1PriceSurplusSpec.pre6 enc Try.prog Try.f7 Rows.l1PriceSurplusRow.domain false) (Rows.l1PriceSurplusSpec.post enc Try.prog Try.f7 false true false false) := by
  refine returnsInHanded_of_change_sized (C := Try.checked) own started (by kernel_rfl) Try.func7
    (ChangeSpec.witness6 (enc := enc) (C := Try.checked) false ⟨#[], #[.agg #[.int .u64 0, .int .u64 0, .int .u64 0, .int .u64 0], .agg #[.int .u64 0, .int .u64 0, .int .u64 0, .int .u64 0]], []⟩ 8 (by kernel_rfl) (by kernel_rfl) (by kernel_rfl) (by kernel_rfl)) ?_
  intro W base args ds gs before hval hW _ hsz _
  exact row_of_con (C := Try.checked) (fn := Try.f7) (s := Rows.l1PriceSurplusSpec) (ts := [(.arr 4 (.int .u64)), (.arr 4 (.int .u64))]) (F := pontagelaw19_L1PriceSurplus) laidOut Try.func7 (by kernel_rfl) (by kernel_rfl) (by kernel_rfl) rfl Try.underlying4 rfl
    (fun ds h => match ds, h with | [_, _], _ => rfl) (ok7) (fun x h => match x with | (a, b, ()) => surplus_law a b) base args ds gs before hval hW hsz
theorem over : Rows.l1PriceSurplusRow.holds Try.pinned (OpenSpec.ofChange Rows.l1PriceSurplusSpec) :=
  OpenClaim.holds_of_wide 7 Try.f7 rfl rfl rfl rfl rfl rfl rfl ⟨rfl, rfl, rfl, rfl, rfl⟩ rfl rfl rfl rfl rfl (by kernel_rfl) Try.func7 (by kernel_rfl)
    (of_decide_eq_true (by kernel_rfl)) (by unfold Func.isWrapper; first | (rw [if_pos (by decide +kernel)]; kernel_rfl) | (rw [if_neg (by decide +kernel)]; exact ⟨rfl, rfl⟩))
    (fun os started H enc _ => lifted os started H enc)
theorem proved : Rows.L1PriceSurplusSaid := over
end Go.Proofs.Ytmjjppoaianfmaa.l1PriceSurplus
namespace Go.Proofs.Ytmjjppoaianfmaa
/-- The law holds. -/
theorem l1PriceSurplus_holds : Rows.L1PriceSurplusSaid := l1PriceSurplus.proved
#print axioms l1PriceSurplus_holds
end Go.Proofs.Ytmjjppoaianfmaa
