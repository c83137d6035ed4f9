/- The law AuditTotal returns true at every input that its statement lets in. The conditions: none beyond those of the statement itself. -/
import Derived.Test.YtojogbnepbblgaaGreatRows
import Derived.WalkKit
import Derived.ProofKit
import Derived.Test.YtojogbnepbblgaaGreatPart4
import Derived.Test.YtojogbnepbblgaaGreatPart7
namespace Go.Proofs.YtojogbnepbblgaaGreat.auditTotal
open Go.ChangeShapes Go.WideShapes Go.ChangeAt Go.RowKit Sym
theorem own:ownKnob Tryz.prog.godebug = none:=by kernel_rfl
theorem laidOut:laidOutB Tryz.prog = true:=by kernel_rfl
set_option maxRecDepth 100000 in
theorem lifted (os:Os) (started:os.Started) (H:Type) (enc:TypeId × Value→H) :
  ReturnsInHanded {} Tryz.checked os 3 .any (Rows.auditTotalSpec.pre6 enc Tryz.prog Tryz.f3 Rows.auditTotalRow.domain false) (Rows.auditTotalSpec.post enc Tryz.prog Tryz.f3 false true false false):=by
 refine returnsInHanded_of_change_sized (C:=Tryz.checked) own started (by kernel_rfl) Tryz.func3
  (ChangeSpec.witness6 (enc:=enc) (C:=Tryz.checked) false ⟨#[],#[.slice none 0 0,.slice none 0 0,.slice none 0 0,.int .i64 0,.agg #[.int .u64 0,.int .u64 0,.int .u64 0,.int .u64 0],.int .i64 0],[]⟩ 8 (by kernel_rfl) (by kernel_rfl) (by kernel_rfl) (by kernel_rfl)) ?_
 intro W base args ds gs before hval hW _ hsz _
 exact e5E (C:=Tryz.checked) (fn:=Tryz.f3) (s:=Rows.auditTotalSpec) (ts:=[(.sl (.cons (.int .i64) (.cons (.cons (.int .u64) (.cons (.int .u64) (.cons (.int .u64) (.cons (.arr 4 (.int .u64)) (.cons (.int .u64) (.cons (.arr 4 (.int .u64)) (.cons (.arr 4 (.int .u64)) (.cons (.int .u64) (.cons (.sl (.int .u8)) .nil))))))))) (.cons (.cons (.int .u64) (.cons (.int .u64) (.cons (.arr 4 (.int .u64)) .nil))) (.cons (.int .u64) (.cons (.int .i64) (.cons (.arr 4 (.int .u64)) (.cons (.int .u64) (.cons (.cons (.int .u64) (.cons (.int .u64) (.cons (.int .u64) (.cons (.arr 4 (.int .u64)) (.cons (.sl (.arr 32 (.int .u8))) .nil))))) .nil))))))))),(.sl (.cons (.int .i64) (.cons (.int .i64) (.cons (.cons (.int .u64) (.cons (.int .u64) (.cons (.int .u64) (.cons (.int .u64) (.cons .bool (.cons (.arr 4 (.int .u64)) (.cons (.arr 4 (.int .u64)) (.cons (.arr 4 (.int .u64)) (.cons (.arr 4 (.int .u64)) (.cons (.arr 4 (.int .u64)) .nil)))))))))) (.cons (.arr 4 (.int .u64)) (.cons (.arr 4 (.int .u64)) (.cons (.int .u64) (.cons (.arr 4 (.int .u64)) (.cons (.arr 4 (.int .u64)) (.cons (.sl (.cons (.int .u64) (.cons (.int .u64) (.cons (.arr 4 (.int .u64)) .nil)))) .nil)))))))))),(.sl (.int .i64)),(.int .i64),(.arr 4 (.int .u64)),(.int .i64)]) (F:=a7Q K0) laidOut Tryz.func3 (by kernel_rfl) (by kernel_rfl) (by kernel_rfl) rfl Tryz.underlying4 rfl
  (fun ds h=>match ds,h with | [_,_,_,_,_,_],_=>rfl) (ok3) (fun x h=>e0G x.1 x.2.1 x.2.2.1 x.2.2.2.1 x.2.2.2.2.1 x.2.2.2.2.2.1 h.1.1 h.2.1.1 h.2.2.1.1 (fun y hy=>f9G h.2.1.2 hy)) base args ds gs before hval hW hsz
theorem over:Rows.auditTotalRow.holds Tryz.pinned (OpenSpec.ofChange Rows.auditTotalSpec) :=
 OpenClaim.holds_of_wide 3 Tryz.f3 rfl rfl rfl rfl rfl rfl rfl ⟨rfl,rfl,rfl,rfl,rfl⟩ rfl rfl rfl rfl rfl (by kernel_rfl) Tryz.func3 (by kernel_rfl)
  (of_decide_eq_true (by kernel_rfl)) (by unfold Func.isWrapper; first | (rw [if_pos (by decide +kernel)]; kernel_rfl) | (rw [if_neg (by decide +kernel)]; exact ⟨rfl,rfl⟩))
  (fun os started H enc _=>lifted os started H enc)
theorem proved:Rows.AuditTotalSaid:=over
end Go.Proofs.YtojogbnepbblgaaGreat.auditTotal
namespace Go.Proofs.YtojogbnepbblgaaGreat
theorem auditTotal_holds:Rows.AuditTotalSaid:=auditTotal.proved
#print axioms auditTotal_holds
end Go.Proofs.YtojogbnepbblgaaGreat
