/- The law AuditCheck returns true at every input that its statement lets in. The conditions: none beyond those of the statement itself. -/
import Derived.Test.YtojogbnepbblgaaGreatRows
import Derived.WalkKit
import Derived.ProofKit
import Derived.Test.YtojogbnepbblgaaGreatPart5
import Derived.Test.YtojogbnepbblgaaGreatPart7
namespace Go.Proofs.YtojogbnepbblgaaGreat.auditCheck
open Go.ChangeShapes Go.WideShapes Go.ChangeAt Go.RowKit Sym
theorem own:ownKnob Tryz.prog.godebug = none:=by kernel_rfl
theorem laidOut:laidOutB Tryz.prog = true:=by kernel_rfl
set_option maxRecDepth 100000 in
theorem lifted (os:Os) (started:os.Started) (H:Type) (enc:TypeId × Value→H) :
  ReturnsInHanded {} Tryz.checked os 4 .any (Rows.auditCheckSpec.pre6 enc Tryz.prog Tryz.f4 Rows.auditCheckRow.domain false) (Rows.auditCheckSpec.post enc Tryz.prog Tryz.f4 false true false false):=by
 refine returnsInHanded_of_change_sized (C:=Tryz.checked) own started (by kernel_rfl) Tryz.func4
  (ChangeSpec.witness6 (enc:=enc) (C:=Tryz.checked) false ⟨#[],#[.agg #[.int .u64 0,.int .u64 0,.int .u64 0,.int .u64 0,.int .u64 0,.int .u64 0,.int .u64 0,.int .u64 0,.int .u64 0,.int .u64 0,.int .u64 0,.int .u64 0,.int .u64 0,.int .u64 0,.int .u64 0,.int .u64 0,.int .u64 0,.int .u64 0,.int .u64 0,.int .u64 0,.int .u64 0,.int .u64 0,.int .u64 0,.int .u64 0,.int .u64 0,.int .u64 0,.int .u64 0,.int .u64 0,.int .u64 0,.int .u64 0,.int .u64 0,.int .u64 0,.int .u64 0,.int .u64 0,.int .u64 0,.int .u64 0,.int .u64 0,.bool false,.int .u64 0,.int .u64 0,.int .u64 0,.int .u64 0,.slice none 0 0,.slice none 0 0,.int .u64 0,.int .u64 0,.int .u64 0,.int .u64 0,.int .u64 0,.int .u64 0,.int .u64 0,.int .u64 0,.int .u64 0,.int .u64 0,.int .u64 0,.int .u64 0,.int .u64 0,.int .u64 0,.int .u64 0,.int .u64 0,.slice none 0 0,.slice none 0 0,.int .u64 0,.int .u64 0,.int .u64 0,.int .u64 0,.slice none 0 0],.agg #[.int .u64 0,.int .u64 0,.int .u64 0,.int .u64 0,.int .u64 0,.int .u64 0,.int .u64 0,.int .u64 0,.int .u64 0,.int .u64 0,.int .u64 0,.int .u64 0,.int .u64 0,.int .u64 0,.int .u64 0,.int .u64 0,.int .u64 0,.int .u64 0,.int .u64 0,.int .u64 0,.int .u64 0,.int .u64 0,.int .u64 0,.int .u64 0,.int .u64 0,.int .u64 0,.int .u64 0,.int .u64 0,.int .u64 0,.int .u64 0,.int .u64 0,.int .u64 0],.slice none 0 0,.agg #[.int .u64 0,.int .u64 0,.int .u64 0,.int .u64 0],.int .i64 0],[]⟩ 8 (by kernel_rfl) (by kernel_rfl) (by kernel_rfl) (by kernel_rfl)) ?_
 intro W base args ds gs before hval hW _ hsz _
 exact e7U (C:=Tryz.checked) (fn:=Tryz.f4) (s:=Rows.auditCheckSpec) (ts:=[(.cons (.int .u64) (.cons (.cons (.int .u64) (.cons (.int .u64) (.cons (.int .u64) (.cons (.arr 4 (.int .u64)) (.cons (.int .u64) (.cons (.arr 4 (.int .u64)) (.cons (.int .u64) (.cons (.arr 4 (.int .u64)) (.cons (.int .u64) (.cons (.int .u64) (.cons (.int .u64) (.cons (.int .u64) .nil)))))))))))) (.cons (.cons (.int .u64) (.cons (.int .u64) (.cons (.int .u64) (.cons (.arr 4 (.int .u64)) .nil)))) (.cons (.int .u64) (.cons (.cons (.arr 4 (.int .u64)) (.cons (.int .u64) (.cons (.int .u64) (.cons (.int .u64) (.cons (.cons .bool (.cons (.arr 4 (.int .u64)) .nil)) (.cons (.sl (.cons (.int .u64) (.cons (.arr 4 (.int .u64)) (.cons (.arr 4 (.int .u64)) (.cons (.arr 4 (.int .u64)) (.cons (.arr 4 (.int .u64)) (.cons (.int .u64) .nil))))))) .nil)))))) (.cons (.sl (.cons (.int .u64) (.cons (.arr 4 (.int .u64)) (.cons (.int .u64) .nil)))) (.cons (.arr 4 (.arr 4 (.int .u64))) (.cons (.sl (.cons (.int .u64) (.cons (.int .u64) (.cons (.arr 4 (.int .u64)) .nil)))) (.cons (.sl .bool) (.cons (.arr 4 (.int .u64)) (.cons (.sl (.cons (.int .u64) (.cons (.arr 4 (.int .u64)) .nil))) .nil))))))))))),(.cons (.arr 4 (.int .u64)) (.cons (.arr 4 (.int .u64)) (.cons (.arr 4 (.int .u64)) (.cons (.arr 4 (.int .u64)) (.cons (.arr 4 (.int .u64)) (.cons (.arr 4 (.int .u64)) (.cons (.arr 4 (.int .u64)) (.cons (.arr 4 (.int .u64)) .nil)))))))),(.sl (.int .i64)),(.arr 4 (.int .u64)),(.int .i64)]) (F:=a7V K0) laidOut Tryz.func4 (by kernel_rfl) (by kernel_rfl) (by kernel_rfl) rfl Tryz.underlying4 rfl
  (fun ds h=>match ds,h with | [_,_,_,_,_],_=>rfl) (ok4) (fun x h=>e2T x.1 x.2.1 x.2.2.1 x.2.2.2.1 x.2.2.2.2.1 h.1.2.2.2.2.2.1.1 h.1.2.2.2.2.2.2.2.1.1 h.1.2.2.2.2.1.2.2.2.2.2.1.1 h.2.2.1.1) base args ds gs before hval hW hsz
theorem over:Rows.auditCheckRow.holds Tryz.pinned (OpenSpec.ofChange Rows.auditCheckSpec) :=
 OpenClaim.holds_of_wide 4 Tryz.f4 rfl rfl rfl rfl rfl rfl rfl ⟨rfl,rfl,rfl,rfl,rfl⟩ rfl rfl rfl rfl rfl (by kernel_rfl) Tryz.func4 (by kernel_rfl)
  (of_decide_eq_true (by kernel_rfl)) (by unfold Func.isWrapper; first | (rw [if_pos (by decide +kernel)]; kernel_rfl) | (rw [if_neg (by decide +kernel)]; exact ⟨rfl,rfl⟩))
  (fun os started H enc _=>lifted os started H enc)
theorem proved:Rows.AuditCheckSaid:=over
end Go.Proofs.YtojogbnepbblgaaGreat.auditCheck
namespace Go.Proofs.YtojogbnepbblgaaGreat
theorem auditCheck_holds:Rows.AuditCheckSaid:=auditCheck.proved
#print axioms auditCheck_holds
end Go.Proofs.YtojogbnepbblgaaGreat
