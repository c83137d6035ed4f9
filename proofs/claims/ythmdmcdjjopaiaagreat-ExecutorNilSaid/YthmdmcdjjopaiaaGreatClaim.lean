/- The law ExecutorNil returns true at every input that its statement lets in. The conditions: none beyond those of the statement itself. -/
import Derived.Test.YthmdmcdjjopaiaaGreatRows
import Derived.WalkKit
import Derived.ProofKit
import Derived.Test.YthmdmcdjjopaiaaGreatPart5
import Derived.Test.YthmdmcdjjopaiaaGreatPart6
namespace Go.Proofs.YthmdmcdjjopaiaaGreat.executorNil
open Go.ChangeShapes Go.WideShapes Go.ChangeAt Go.RowKit Sym
set_option maxRecDepth 100000 in
theorem lifted (os : Os) (started : os.Started) (H : Type) (enc : TypeId × Value → H) :
    ReturnsInHanded {} Tryz.checked os 4 .any (Rows.executorNilSpec.pre6 enc Tryz.prog Tryz.f4 Rows.executorNilRow.domain false) (Rows.executorNilSpec.post enc Tryz.prog Tryz.f4 false true false false):=by
  refine returnsInHanded_of_change_sized (C:=Tryz.checked) own started (by kernel_rfl) Tryz.func4
    (ChangeSpec.witness6 (enc:=enc) (C:=Tryz.checked) false ⟨#[],#[.agg #[.int .i64 0,.int .u64 0,.int .u64 0,.int .u64 0,.int .u64 0,.int .u64 0,.int .u64 0,.int .u64 0,.int .u64 0,.int .u64 0,.int .u64 0,.int .u64 0,.int .u64 0,.int .u64 0,.int .u64 0,.int .u64 0,.int .u64 0,.int .u64 0,.slice none 0 0,.int .u64 0,.int .u64 0,.int .u64 0,.int .u64 0,.int .u64 0,.int .u64 0,.int .u64 0,.int .i64 0,.int .u64 0,.int .u64 0,.int .u64 0,.int .u64 0,.int .u64 0,.int .u64 0,.int .u64 0,.int .u64 0,.int .u64 0,.int .u64 0,.int .u64 0,.int .u64 0,.slice none 0 0],.slice none 0 0,.int .u64 0],[]⟩ 8 (by kernel_rfl) (by kernel_rfl) (by kernel_rfl) (by kernel_rfl)) ?_
  intro W base args ds gs before hval hW _ hsz _
  exact row_of_con (C:=Tryz.checked) (fn:=Tryz.f4) (s:=Rows.executorNilSpec) (ts:=[(.cons (.int .i64) (.cons (.cons (.int .u64) (.cons (.int .u64) (.cons (.int .u64) (.cons (.arr 4 (.int .u64)) (.cons (.int .u64) (.cons (.arr 4 (.int .u64)) (.cons (.arr 4 (.int .u64)) (.cons (.int .u64) (.cons (.sl (.int .u8)) .nil))))))))) (.cons (.cons (.int .u64) (.cons (.int .u64) (.cons (.arr 4 (.int .u64)) .nil))) (.cons (.int .u64) (.cons (.int .i64) (.cons (.arr 4 (.int .u64)) (.cons (.int .u64) (.cons (.cons (.int .u64) (.cons (.int .u64) (.cons (.int .u64) (.cons (.arr 4 (.int .u64)) (.cons (.sl (.arr 32 (.int .u8))) .nil))))) .nil)))))))),(.sl (.int .u8)),(.int .u64)]) (F:=pontagelaw28_ExecutorNil K0) laidOut Tryz.func4 (by kernel_rfl) (by kernel_rfl) (by kernel_rfl) rfl Tryz.underlying4 rfl
    (fun ds h=>match ds,h with | [_,_,_],_=>rfl) (ok4) ((fun x h=>execNil_law x.1 x.2.1 x.2.2.1)) base args ds gs before hval hW hsz
theorem over:Rows.executorNilRow.holds Tryz.pinned (OpenSpec.ofChange Rows.executorNilSpec) :=
  OpenClaim.holds_of_wide 4 Tryz.f4 rfl rfl rfl rfl rfl rfl rfl ⟨rfl,rfl,rfl,rfl,rfl⟩ rfl rfl rfl rfl rfl (by kernel_rfl) Tryz.func4 closed
    (of_decide_eq_true (by kernel_rfl)) (by unfold Func.isWrapper; first | (rw [if_pos (by decide +kernel)]; kernel_rfl) | (rw [if_neg (by decide +kernel)]; exact ⟨rfl,rfl⟩))
    (fun os started H enc _=>lifted os started H enc)
theorem proved:Rows.ExecutorNilSaid:=over
end Go.Proofs.YthmdmcdjjopaiaaGreat.executorNil
namespace Go.Proofs.YthmdmcdjjopaiaaGreat
theorem executorNil_holds:Rows.ExecutorNilSaid:=executorNil.proved
#print axioms executorNil_holds
end Go.Proofs.YthmdmcdjjopaiaaGreat
