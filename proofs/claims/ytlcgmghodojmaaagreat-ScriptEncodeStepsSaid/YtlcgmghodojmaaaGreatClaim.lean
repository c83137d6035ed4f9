/- The law ScriptEncodeSteps returns true at every input that its statement lets in. The conditions: none beyond those of the statement itself. -/
import Derived.Test.YtlcgmghodojmaaaGreatRows
import Derived.WalkKit
import Derived.ProofKit
import Derived.Test.YtlcgmghodojmaaaGreatPart5
import Derived.Test.YtlcgmghodojmaaaGreatPart7
namespace Go.Proofs.YtlcgmghodojmaaaGreat.scriptEncodeSteps
open Go.ChangeShapes Go.WideShapes Go.ChangeAt Go.RowKit Sym
set_option maxRecDepth 100000 in
theorem lifted (os:Os) (started:os.Started) (H:Type) (enc:TypeId×Value→H) :
  ReturnsInHanded {} Tryz.checked os 8 .any (Rows.scriptEncodeStepsSpec.pre6 enc Tryz.prog Tryz.f8 Rows.scriptEncodeStepsRow.domain false) (Rows.scriptEncodeStepsSpec.post enc Tryz.prog Tryz.f8 false true false false):=by
 refine returnsInHanded_of_change_sized (C:=Tryz.checked) own started (by kernel_rfl) Tryz.func8
  (ChangeSpec.witness6 (enc:=enc) (C:=Tryz.checked) false ⟨#[],#[.slice none 0 0,.slice none 0 0,.bool false],[]⟩ 8 (by kernel_rfl) (by kernel_rfl) (by kernel_rfl) (by kernel_rfl)) ?_
 intro W base args ds gs before hval hW _ hsz _
 exact f2S (C:=Tryz.checked) (fn:=Tryz.f8) (s:=Rows.scriptEncodeStepsSpec) (ts:=[(.sl (.cons (.int .i64) (.cons (.cons (.int .u64) (.cons (.int .u64) (.cons (.int .u64) (.cons (.arr 4 (.int .u64)) (.cons (.int .u64) (.cons (.arr 4 (.int .u64)) (.cons (.arr 4 (.int .u64)) (.cons (.int .u64) (.cons (.sl (.int .u8)) .nil))))))))) (.cons (.cons (.int .u64) (.cons (.int .u64) (.cons (.arr 4 (.int .u64)) .nil))) (.cons (.int .u64) (.cons (.int .i64) (.cons (.arr 4 (.int .u64)) (.cons (.int .u64) (.cons (.cons (.int .u64) (.cons (.int .u64) (.cons (.int .u64) (.cons (.arr 4 (.int .u64)) (.cons (.sl (.arr 32 (.int .u8))) .nil))))) .nil))))))))),(.sl (.int .i64)),.bool]) (F:=a5F K0) laidOut Tryz.func8 (by kernel_rfl) (by kernel_rfl) (by kernel_rfl) rfl Tryz.underlying4 rfl
  (fun ds h=>match ds,h with | [_,_,_],_=>rfl) (ok8) (fun x h=>d7M x.1 x.2.1 x.2.2.1 h.1.1 h.2.1.1 (fun s hs=>by obtain ⟨i,hi,rfl⟩:=List.getElem_of_mem hs; have g:=h.1.2 i _ (List.getElem?_eq_getElem hi); exact ⟨g.2.1.2.2.2.2.2.2.2.2.1.1,g.2.2.2.2.2.2.2.1.2.2.2.2.1.1⟩)) base args ds gs before hval hW hsz
theorem over:Rows.scriptEncodeStepsRow.holds Tryz.pinned (OpenSpec.ofChange Rows.scriptEncodeStepsSpec) :=
 OpenClaim.holds_of_wide 8 Tryz.f8 rfl rfl rfl rfl rfl rfl rfl ⟨rfl,rfl,rfl,rfl,rfl⟩ rfl rfl rfl rfl rfl (by kernel_rfl) Tryz.func8 closed
  (of_decide_eq_true (by kernel_rfl)) (by unfold Func.isWrapper; first | (rw [if_pos (by decide +kernel)]; kernel_rfl) | (rw [if_neg (by decide +kernel)]; exact ⟨rfl,rfl⟩))
  (fun os started H enc _=>lifted os started H enc)
theorem proved:Rows.ScriptEncodeStepsSaid:=over
end Go.Proofs.YtlcgmghodojmaaaGreat.scriptEncodeSteps
namespace Go.Proofs.YtlcgmghodojmaaaGreat
theorem scriptEncodeSteps_holds:Rows.ScriptEncodeStepsSaid:=scriptEncodeSteps.proved
#print axioms scriptEncodeSteps_holds
end Go.Proofs.YtlcgmghodojmaaaGreat
