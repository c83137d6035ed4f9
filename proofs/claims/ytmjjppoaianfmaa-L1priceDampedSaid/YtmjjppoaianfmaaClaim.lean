/- The law L1priceDamped returns true at every input that its statement lets in. The conditions: none beyond those of the statement itself. -/
import Derived.Test.YtmjjppoaianfmaaRows
import Derived.WalkKit
import Derived.ProofKit
import Derived.Test.YtmjjppoaianfmaaPart6
import Derived.Test.YtmjjppoaianfmaaPart3
namespace Go.Proofs.Ytmjjppoaianfmaa.l1priceDamped
open Go.ChangeShapes Go.WideShapes Go.ChangeAt Go.RowKit Sym
theorem own : ownKnob Try.prog.godebug = none := by kernel_rfl
theorem laidOut : laidOutB Try.prog = true := by kernel_rfl
set_option maxRecDepth 100000 in
theorem lifted (os : Os) (started : os.Started) (H : Type) (enc : TypeId × Value → H) :
    ReturnsInHanded {} Try.checked os 8 .any (Rows.l1priceDampedSpec.pre6 enc Try.prog Try.f8 Rows.l1priceDampedRow.domain false) (Rows.l1priceDampedSpec.post enc Try.prog Try.f8 false true false false) := by
  refine returnsInHanded_of_change_sized (C := Try.checked) own started (by kernel_rfl) Try.func8
    (ChangeSpec.witness6 (enc := enc) (C := Try.checked) false ⟨#[], #[.int .i64 0, .int .i64 0, .int .u64 0, .agg #[.int .u64 0, .int .u64 0, .int .u64 0, .int .u64 0, .int .u64 0, .int .u64 0, .int .u64 0, .int .u64 0]], []⟩ 8 (by kernel_rfl) (by kernel_rfl) (by kernel_rfl) (by kernel_rfl)) ?_
  intro W base args ds gs before hval hW _ hsz _
  exact row_of_con (C := Try.checked) (fn := Try.f8) (s := Rows.l1priceDampedSpec) (ts := [(.int .i64), (.int .i64), (.int .u64), (.arr 8 (.int .u64))]) (F := pontagelaw19_L1priceDamped) laidOut Try.func8 (by kernel_rfl) (by kernel_rfl) (by kernel_rfl) rfl Try.underlying4 rfl
    (fun ds h => match ds, h with | [_, _, _, _], _ => rfl) (ok8) (fun x h => match x with | (a, b, c, v, ()) => damped_law a b c v) base args ds gs before hval hW hsz
theorem over : Rows.l1priceDampedRow.holds Try.pinned (OpenSpec.ofChange Rows.l1priceDampedSpec) :=
  OpenClaim.holds_of_wide 8 Try.f8 rfl rfl rfl rfl rfl rfl rfl ⟨rfl, rfl, rfl, rfl, rfl⟩ rfl rfl rfl rfl rfl (by kernel_rfl) Try.func8 (by kernel_rfl)
    (of_decide_eq_true (by kernel_rfl)) (by unfold Func.isWrapper; first | (rw [if_pos (by decide +kernel)]; kernel_rfl) | (rw [if_neg (by decide +kernel)]; exact ⟨rfl, rfl⟩))
    (fun os started H enc _ => lifted os started H enc)
theorem proved : Rows.L1priceDampedSaid := over
end Go.Proofs.Ytmjjppoaianfmaa.l1priceDamped
namespace Go.Proofs.Ytmjjppoaianfmaa
/-- The law holds. -/
theorem l1priceDamped_holds : Rows.L1priceDampedSaid := l1priceDamped.proved
#print axioms l1priceDamped_holds
end Go.Proofs.Ytmjjppoaianfmaa
