/- The law PricerCalls returns true at every input that its statement lets in. The conditions: none beyond those of the statement itself. -/
import Derived.Test.YtpeicefbediffaaGreatRows
import Derived.WalkKit
import Derived.ProofKit
import Derived.Test.YtpeicefbediffaaGreatPart5
import Derived.Test.YtpeicefbediffaaGreatPart7
import Derived.Test.YtpeicefbediffaaGreatPart8
namespace Go.Proofs.YtpeicefbediffaaGreat.pricerCalls
open Go.ChangeShapes Go.WideShapes Go.ChangeAt Go.RowKit Sym
theorem own : ownKnob Tryz.prog.godebug = none := by kernel_rfl
theorem laidOut : laidOutB Tryz.prog = true := by kernel_rfl
set_option maxRecDepth 100000 in
theorem lifted (os : Os) (started : os.Started) (H : Type) (enc : TypeId × Value → H) :
  ReturnsInHanded {} Tryz.checked os 3 .any (Rows.pricerCallsSpec.pre6 enc Tryz.prog Tryz.f3 Rows.pricerCallsRow.domain false) (Rows.pricerCallsSpec.post enc Tryz.prog Tryz.f3 false true false false) := by
 refine returnsInHanded_of_change_sized (C := Tryz.checked) own started (by kernel_rfl) Tryz.func3
  (ChangeSpec.witness6 (enc := enc) (C := Tryz.checked) false ⟨#[], #[.slice none 0 0, .agg #[.int .u64 0, .int .u64 0, .int .u64 0, .int .u64 0, .int .u64 0, .int .u64 0, .int .u64 0, .int .u64 0], .bool false], []⟩ 8 (by kernel_rfl) (by kernel_rfl) (by kernel_rfl) (by kernel_rfl)) ?_
 intro W base args ds gs before hval hW _ hsz _
 exact d6O (C := Tryz.checked) (fn := Tryz.f3) (s := Rows.pricerCallsSpec) (ts := [(.sl (.cons (.int .i64) (.cons (.int .u64) (.cons (.int .u64) (.cons (.arr 4 (.int .u64)) (.cons (.cons (.int .u64) (.cons (.int .u64) (.cons (.arr 4 (.int .u64)) .nil))) (.cons (.int .u64) (.cons .bool .nil)))))))), (.arr 8 (.int .u64)), .bool]) (F := a4B) laidOut Tryz.func3 (by kernel_rfl) (by kernel_rfl) (by kernel_rfl) rfl Tryz.underlying4 rfl
  (fun ds h => match ds, h with | [_, _, _], _ => rfl) (ok3) ((fun x h => match x, h with | (l, v, g, ()), h => d3J l v g h.1.1)) base args ds gs before hval hW hsz
theorem over : Rows.pricerCallsRow.holds Tryz.pinned (OpenSpec.ofChange Rows.pricerCallsSpec) :=
 OpenClaim.holds_of_wide 3 Tryz.f3 rfl rfl rfl rfl rfl rfl rfl ⟨rfl, rfl, rfl, rfl, rfl⟩ rfl rfl rfl rfl rfl (by kernel_rfl) Tryz.func3 (by kernel_rfl)
  (of_decide_eq_true (by kernel_rfl)) (by unfold Func.isWrapper; first | (rw [if_pos (by decide +kernel)]; kernel_rfl) | (rw [if_neg (by decide +kernel)]; exact ⟨rfl, rfl⟩))
  (fun os started H enc _ => lifted os started H enc)
theorem proved : Rows.PricerCallsSaid := over
end Go.Proofs.YtpeicefbediffaaGreat.pricerCalls
namespace Go.Proofs.YtpeicefbediffaaGreat
theorem pricerCalls_holds : Rows.PricerCallsSaid := pricerCalls.proved
#print axioms pricerCalls_holds
end Go.Proofs.YtpeicefbediffaaGreat
