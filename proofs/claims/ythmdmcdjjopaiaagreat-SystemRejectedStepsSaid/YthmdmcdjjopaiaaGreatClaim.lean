/- The law SystemRejectedSteps returns true at every input that its statement lets in. The conditions: none beyond those of the statement itself. -/
import Derived.Test.YthmdmcdjjopaiaaGreatRows
import Derived.WalkKit
import Derived.ProofKit
import Derived.Test.YthmdmcdjjopaiaaGreatPart5
import Derived.Test.YthmdmcdjjopaiaaGreatPart7
import Derived.Test.YthmdmcdjjopaiaaGreatPart6
namespace Go.Proofs.YthmdmcdjjopaiaaGreat.systemRejectedSteps
open Go.ChangeShapes Go.WideShapes Go.ChangeAt Go.RowKit Sym
set_option maxRecDepth 100000 in
theorem lifted (os:Os) (started:os.Started) (H:Type) (enc:TypeId × Value→H) :
  ReturnsInHanded {} Tryz.checked os 3 .any (Rows.systemRejectedStepsSpec.pre6 enc Tryz.prog Tryz.f3 Rows.systemRejectedStepsRow.domain false) (Rows.systemRejectedStepsSpec.post enc Tryz.prog Tryz.f3 false true false false):=by
 refine returnsInHanded_of_change_sized (C:=Tryz.checked) own started (by kernel_rfl) Tryz.func3
  (ChangeSpec.witness6 (enc:=enc) (C:=Tryz.checked) false ⟨#[],#[.slice none 0 0],[]⟩ 8 (by kernel_rfl) (by kernel_rfl) (by kernel_rfl) (by kernel_rfl)) ?_
 intro W base args ds gs before hval hW _ hsz _
 exact row_of_con (C:=Tryz.checked) (fn:=Tryz.f3) (s:=Rows.systemRejectedStepsSpec) (ts:=[(.sl (.sl (.int .u8)))]) (F:=pontagetop_SystemRejectedSteps K0) laidOut Tryz.func3 (by kernel_rfl) (by kernel_rfl) (by kernel_rfl) rfl Tryz.underlying4 rfl
  (fun ds h=>match ds,h with | [_],_=>rfl) (ok3) ((fun x h=>rej_law x.1 h.1.1 (fun s hs=>by obtain ⟨i,hi,rfl⟩:=List.getElem_of_mem hs; exact (h.1.2 i _ (List.getElem?_eq_getElem hi)).1))) base args ds gs before hval hW hsz
theorem over:Rows.systemRejectedStepsRow.holds Tryz.pinned (OpenSpec.ofChange Rows.systemRejectedStepsSpec) :=
 OpenClaim.holds_of_wide 3 Tryz.f3 rfl rfl rfl rfl rfl rfl rfl ⟨rfl,rfl,rfl,rfl,rfl⟩ rfl rfl rfl rfl rfl (by kernel_rfl) Tryz.func3 closed
  (of_decide_eq_true (by kernel_rfl)) (by unfold Func.isWrapper; first | (rw [if_pos (by decide +kernel)]; kernel_rfl) | (rw [if_neg (by decide +kernel)]; exact ⟨rfl,rfl⟩))
  (fun os started H enc _=>lifted os started H enc)
theorem proved:Rows.SystemRejectedStepsSaid:=over
end Go.Proofs.YthmdmcdjjopaiaaGreat.systemRejectedSteps
namespace Go.Proofs.YthmdmcdjjopaiaaGreat
theorem systemRejectedSteps_holds:Rows.SystemRejectedStepsSaid:=systemRejectedSteps.proved
#print axioms systemRejectedSteps_holds
end Go.Proofs.YthmdmcdjjopaiaaGreat
