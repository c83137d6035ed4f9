/- The law AuditConsistent returns true at every input that its statement lets in. The conditions: none beyond those of the statement itself. -/
import Derived.Test.YtojogbnepbblgaaGreatRows
import Derived.WalkKit
import Derived.ProofKit
import Derived.Test.YtojogbnepbblgaaGreatPart4
import Derived.Test.YtojogbnepbblgaaGreatPart7
namespace Go.Proofs.YtojogbnepbblgaaGreat.auditConsistent
open Go.ChangeShapes Go.WideShapes Go.ChangeAt Go.RowKit Sym
theorem own:ownKnob Tryz.prog.godebug = none:=by kernel_rfl
theorem laidOut:laidOutB Tryz.prog = true:=by kernel_rfl
set_option maxRecDepth 100000 in
theorem lifted (os:Os) (started:os.Started) (H:Type) (enc:TypeId × Value→H) :
  ReturnsInHanded {} Tryz.checked os 5 .any (Rows.auditConsistentSpec.pre6 enc Tryz.prog Tryz.f5 Rows.auditConsistentRow.domain false) (Rows.auditConsistentSpec.post enc Tryz.prog Tryz.f5 false true false false):=by
 refine returnsInHanded_of_change_sized (C:=Tryz.checked) own started (by kernel_rfl) Tryz.func5
  (ChangeSpec.witness6 (enc:=enc) (C:=Tryz.checked) false ⟨#[],#[.slice none 0 0],[]⟩ 8 (by kernel_rfl) (by kernel_rfl) (by kernel_rfl) (by kernel_rfl)) ?_
 intro W base args ds gs before hval hW _ hsz _
 exact e8J (C:=Tryz.checked) (fn:=Tryz.f5) (s:=Rows.auditConsistentSpec) (ts:=[(.sl (.int .i64))]) (F:=a5P K0) laidOut Tryz.func5 (by kernel_rfl) (by kernel_rfl) (by kernel_rfl) rfl Tryz.underlying4 rfl
  (fun ds h=>match ds,h with | [_],_=>rfl) (ok5) (fun x h=>d0A x.1 h.1.1) base args ds gs before hval hW hsz
theorem over:Rows.auditConsistentRow.holds Tryz.pinned (OpenSpec.ofChange Rows.auditConsistentSpec) :=
 OpenClaim.holds_of_wide 5 Tryz.f5 rfl rfl rfl rfl rfl rfl rfl ⟨rfl,rfl,rfl,rfl,rfl⟩ rfl rfl rfl rfl rfl (by kernel_rfl) Tryz.func5 (by kernel_rfl)
  (of_decide_eq_true (by kernel_rfl)) (by unfold Func.isWrapper; first | (rw [if_pos (by decide +kernel)]; kernel_rfl) | (rw [if_neg (by decide +kernel)]; exact ⟨rfl,rfl⟩))
  (fun os started H enc _=>lifted os started H enc)
theorem proved:Rows.AuditConsistentSaid:=over
end Go.Proofs.YtojogbnepbblgaaGreat.auditConsistent
namespace Go.Proofs.YtojogbnepbblgaaGreat
theorem auditConsistent_holds:Rows.AuditConsistentSaid:=auditConsistent.proved
#print axioms auditConsistent_holds
end Go.Proofs.YtojogbnepbblgaaGreat
