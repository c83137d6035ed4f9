/- The law Int256Order returns true at every input that its statement lets in. The conditions: none beyond those of the statement itself. -/
import Derived.Test.YthgamlcklidphaaRows
import Derived.WalkKit
import Derived.ProofKit
import Derived.Test.YthgamlcklidphaaPart4
import Derived.Test.YthgamlcklidphaaPart2
namespace Go.Proofs.Ythgamlcklidphaa.int256Order
open Go.ChangeShapes Go.WideShapes Go.ChangeAt Go.RowKit Sym
theorem own : ownKnob Try.prog.godebug = none := by kernel_rfl
theorem laidOut : laidOutB Try.prog = true := by kernel_rfl
set_option maxRecDepth 100000 in
theorem lifted (os : Os) (started : os.Started) (H : Type) (enc : TypeId × Value → H) :
    ReturnsInHanded {} Try.checked os 5 .any (Rows.int256OrderSpec.pre6 enc Try.prog Try.f5 Rows.int256OrderRow.domain false) (Rows.int256OrderSpec.post enc Try.prog Try.f5 false true false false) := by
  refine returnsInHanded_of_change_sized (C := Try.checked) own started (by kernel_rfl) Try.func5
    (ChangeSpec.witness6 (enc := enc) (C := Try.checked) false ⟨#[], #[.agg #[.bool false, .int .u64 0, .int .u64 0, .int .u64 0, .int .u64 0], .agg #[.bool false, .int .u64 0, .int .u64 0, .int .u64 0, .int .u64 0], .int .i64 0, .bool false], []⟩ 8 (by kernel_rfl) (by kernel_rfl) (by kernel_rfl) (by kernel_rfl)) ?_
  intro W base args ds gs before hval hW _ hsz _
  exact row_of_con (C := Try.checked) (fn := Try.f5) (s := Rows.int256OrderSpec) (ts := [(.cons .bool (.cons (.arr 4 (.int .u64)) .nil)), (.cons .bool (.cons (.arr 4 (.int .u64)) .nil)), (.int .i64), .bool]) (F := pontagelaw3_Int256Order) laidOut Try.func5 (by kernel_rfl) (by kernel_rfl) (by kernel_rfl) rfl Try.underlying4 rfl
    (fun ds h => match ds, h with | [_, _, _, _], _ => rfl) (ok5) (fun x h => match x with | (a, b, n, d, ()) => order_law a b n d) base args ds gs before hval hW hsz
theorem over : Rows.int256OrderRow.holds Try.pinned (OpenSpec.ofChange Rows.int256OrderSpec) :=
  OpenClaim.holds_of_wide 5 Try.f5 rfl rfl rfl rfl rfl rfl rfl ⟨rfl, rfl, rfl, rfl, rfl⟩ rfl rfl rfl rfl rfl (by kernel_rfl) Try.func5 (by kernel_rfl)
    (of_decide_eq_true (by kernel_rfl)) (by unfold Func.isWrapper; first | (rw [if_pos (by decide +kernel)]; kernel_rfl) | (rw [if_neg (by decide +kernel)]; exact ⟨rfl, rfl⟩))
    (fun os started H enc _ => lifted os started H enc)
theorem proved : Rows.Int256OrderSaid := over
end Go.Proofs.Ythgamlcklidphaa.int256Order
namespace Go.Proofs.Ythgamlcklidphaa
/-- The law holds. -/
theorem int256Order_holds : Rows.Int256OrderSaid := int256Order.proved
#print axioms int256Order_holds
end Go.Proofs.Ythgamlcklidphaa
