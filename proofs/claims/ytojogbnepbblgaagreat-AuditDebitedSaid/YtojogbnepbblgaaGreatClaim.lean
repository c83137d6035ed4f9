/- The law AuditDebited returns true at every input that its statement lets in. The conditions: none beyond those of the statement itself. -/
import Derived.Test.YtojogbnepbblgaaGreatRows
import Derived.WalkKit
import Derived.ProofKit
import Derived.Test.YtojogbnepbblgaaGreatPart6
namespace Go.Proofs.YtojogbnepbblgaaGreat.auditDebited
open Go.ChangeShapes Go.WideShapes Go.ChangeAt Go.RowKit Sym
theorem own : ownKnob Tryz.prog.godebug = none := by kernel_rfl
theorem laidOut : laidOutB Tryz.prog = true := by kernel_rfl
set_option maxRecDepth 100000 in
theorem lifted (os : Os) (started : os.Started) (H : Type) (enc : TypeId × Value → H) :
    ReturnsInHanded {} Tryz.checked os 7 .any (Rows.auditDebitedSpec.pre6 enc Tryz.prog Tryz.f7 Rows.auditDebitedRow.domain false) (Rows.auditDebitedSpec.post enc Tryz.prog Tryz.f7 false true false false) := by
  refine returnsInHanded_of_change_sized (C := Tryz.checked) own started (by kernel_rfl) Tryz.func7
    (ChangeSpec.witness6 (enc := enc) (C := Tryz.checked) false ⟨#[], #[.agg #[.int .i64 0, .int .i64 0, .int .u64 0, .int .u64 0, .int .u64 0, .int .u64 0, .bool false, .int .u64 0, .int .u64 0, .int .u64 0, .int .u64 0, .int .u64 0, .int .u64 0, .int .u64 0, .int .u64 0, .int .u64 0, .int .u64 0, .int .u64 0, .int .u64 0, .int .u64 0, .int .u64 0, .int .u64 0, .int .u64 0, .int .u64 0, .int .u64 0, .int .u64 0, .int .u64 0, .int .u64 0, .int .u64 0, .int .u64 0, .int .u64 0, .int .u64 0, .int .u64 0, .int .u64 0, .int .u64 0, .int .u64 0, .int .u64 0, .int .u64 0, .int .u64 0, .int .u64 0, .int .u64 0, .int .u64 0, .int .u64 0, .int .u64 0, .slice none 0 0], .agg #[.int .u64 0, .int .u64 0, .int .u64 0, .int .u64 0, .int .u64 0]], []⟩ 8 (by kernel_rfl) (by kernel_rfl) (by kernel_rfl) (by kernel_rfl)) ?_
  intro W base args ds gs before hval hW _ hsz _
  exact row_of_con (C := Tryz.checked) (fn := Tryz.f7) (s := Rows.auditDebitedSpec) (ts := [(.cons (.int .i64) (.cons (.int .i64) (.cons (.cons (.int .u64) (.cons (.int .u64) (.cons (.int .u64) (.cons (.int .u64) (.cons .bool (.cons (.arr 4 (.int .u64)) (.cons (.arr 4 (.int .u64)) (.cons (.arr 4 (.int .u64)) (.cons (.arr 4 (.int .u64)) (.cons (.arr 4 (.int .u64)) .nil)))))))))) (.cons (.arr 4 (.int .u64)) (.cons (.arr 4 (.int .u64)) (.cons (.int .u64) (.cons (.arr 4 (.int .u64)) (.cons (.arr 4 (.int .u64)) (.cons (.sl (.cons (.int .u64) (.cons (.int .u64) (.cons (.arr 4 (.int .u64)) .nil)))) .nil))))))))), (.arr 5 (.int .u64))]) (F := pontagelaw31_AuditDebited K0) laidOut Tryz.func7 (by kernel_rfl) (by kernel_rfl) (by kernel_rfl) rfl Tryz.underlying4 rfl
    (fun ds h => match ds, h with | [_, _], _ => rfl) (ok7) (fun x _ => debited_law x.1 x.2.1) base args ds gs before hval hW hsz
theorem over : Rows.auditDebitedRow.holds Tryz.pinned (OpenSpec.ofChange Rows.auditDebitedSpec) :=
  OpenClaim.holds_of_wide 7 Tryz.f7 rfl rfl rfl rfl rfl rfl rfl ⟨rfl, rfl, rfl, rfl, rfl⟩ rfl rfl rfl rfl rfl (by kernel_rfl) Tryz.func7 (by kernel_rfl)
    (of_decide_eq_true (by kernel_rfl)) (by unfold Func.isWrapper; first | (rw [if_pos (by decide +kernel)]; kernel_rfl) | (rw [if_neg (by decide +kernel)]; exact ⟨rfl, rfl⟩))
    (fun os started H enc _ => lifted os started H enc)
theorem proved : Rows.AuditDebitedSaid := over
end Go.Proofs.YtojogbnepbblgaaGreat.auditDebited
namespace Go.Proofs.YtojogbnepbblgaaGreat
theorem auditDebited_holds : Rows.AuditDebitedSaid := auditDebited.proved
#print axioms auditDebited_holds
end Go.Proofs.YtojogbnepbblgaaGreat
