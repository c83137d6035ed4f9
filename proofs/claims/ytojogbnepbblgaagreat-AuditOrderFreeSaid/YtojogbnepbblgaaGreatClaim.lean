/- The law AuditOrderFree returns true at every input that its statement lets in. The conditions: none beyond those of the statement itself. -/
import Derived.Test.YtojogbnepbblgaaGreatRows
import Derived.WalkKit
import Derived.ProofKit
import Derived.Test.YtojogbnepbblgaaGreatPart4
import Derived.Test.YtojogbnepbblgaaGreatPart7
namespace Go.Proofs.YtojogbnepbblgaaGreat.auditOrderFree
open Go.ChangeShapes Go.WideShapes Go.ChangeAt Go.RowKit Sym
theorem own:ownKnob Tryz.prog.godebug = none:=by kernel_rfl
theorem laidOut:laidOutB Tryz.prog = true:=by kernel_rfl
set_option maxRecDepth 100000 in
theorem lifted (os:Os) (started:os.Started) (H:Type) (enc:TypeId × Value→H) :
  ReturnsInHanded {} Tryz.checked os 6 .any (Rows.auditOrderFreeSpec.pre6 enc Tryz.prog Tryz.f6 Rows.auditOrderFreeRow.domain false) (Rows.auditOrderFreeSpec.post enc Tryz.prog Tryz.f6 false true false false):=by
 refine returnsInHanded_of_change_sized (C:=Tryz.checked) own started (by kernel_rfl) Tryz.func6
  (ChangeSpec.witness6 (enc:=enc) (C:=Tryz.checked) false ⟨#[],#[.slice none 0 0],[]⟩ 8 (by kernel_rfl) (by kernel_rfl) (by kernel_rfl) (by kernel_rfl)) ?_
 intro W base args ds gs before hval hW _ hsz _
 exact e8F (C:=Tryz.checked) (fn:=Tryz.f6) (s:=Rows.auditOrderFreeSpec) (ts:=[(.sl (.int .i64))]) (F:=a5X K0) laidOut Tryz.func6 (by kernel_rfl) (by kernel_rfl) (by kernel_rfl) rfl Tryz.underlying4 rfl
  (fun ds h=>match ds,h with | [_],_=>rfl) (ok6) (fun x h=>e2T x.1 h.1.1) base args ds gs before hval hW hsz
theorem over:Rows.auditOrderFreeRow.holds Tryz.pinned (OpenSpec.ofChange Rows.auditOrderFreeSpec) :=
 OpenClaim.holds_of_wide 6 Tryz.f6 rfl rfl rfl rfl rfl rfl rfl ⟨rfl,rfl,rfl,rfl,rfl⟩ rfl rfl rfl rfl rfl (by kernel_rfl) Tryz.func6 (by kernel_rfl)
  (of_decide_eq_true (by kernel_rfl)) (by unfold Func.isWrapper; first | (rw [if_pos (by decide +kernel)]; kernel_rfl) | (rw [if_neg (by decide +kernel)]; exact ⟨rfl,rfl⟩))
  (fun os started H enc _=>lifted os started H enc)
theorem proved:Rows.AuditOrderFreeSaid:=over
end Go.Proofs.YtojogbnepbblgaaGreat.auditOrderFree
namespace Go.Proofs.YtojogbnepbblgaaGreat
theorem auditOrderFree_holds:Rows.AuditOrderFreeSaid:=auditOrderFree.proved
#print axioms auditOrderFree_holds
end Go.Proofs.YtojogbnepbblgaaGreat
