/- The contracts of the given functions. -/
import Derived.Test.YtmjjppoaianfmaaProg
import Derived.Test.YtmjjppoaianfmaaPart5
import Derived.Test.YtmjjppoaianfmaaPart3
import Derived.Test.YtmjjppoaianfmaaPart4
namespace Sym
open Go Go.Proofs
set_option maxRecDepth 100000

def tys : List (Nat × Ty) := [(2, (.int .i64)), (3, (.int .i64)), (4, .bool), (5, (.int .u8)), (6, (.int .u8)), (7, (.cons (.int .i64) (.cons (.int .i64) (.cons .bool (.cons (.int .u8) .nil))))), (8, (.cons (.int .i64) (.cons (.int .i64) (.cons .bool (.cons (.int .u8) .nil))))), (9, .str), (10, .str), (11, .str), (22, (.int .u64)), (24, (.arr 4 (.int .u64))), (26, (.cons .bool (.cons (.arr 4 (.int .u64)) .nil))), (28, (.cons (.int .u64) (.cons (.int .u64) (.cons (.int .u64) (.cons (.arr 4 (.int .u64)) (.cons (.int .u64) (.cons (.arr 4 (.int .u64)) (.cons (.int .u64) (.cons (.arr 4 (.int .u64)) (.cons (.int .u64) (.cons (.int .u64) (.cons (.int .u64) (.cons (.int .u64) .nil))))))))))))), (29, (.arr 8 (.int .u64))), (31, (.arr 2 (.cons (.int .u64) (.cons (.int .u64) (.cons (.int .u64) (.cons (.arr 4 (.int .u64)) (.cons (.int .u64) (.cons (.arr 4 (.int .u64)) (.cons (.int .u64) (.cons (.arr 4 (.int .u64)) (.cons (.int .u64) (.cons (.int .u64) (.cons (.int .u64) (.cons (.int .u64) .nil)))))))))))))), (32, (.arr 2 (.int .u64))), (33, (.int .i64)), (56, (.sl (.int .u8))), (58, (.cons (.int .u64) (.cons (.int .u64) (.cons (.int .u64) (.cons (.arr 4 (.int .u64)) (.cons (.int .u64) (.cons (.arr 4 (.int .u64)) (.cons (.arr 4 (.int .u64)) (.cons (.int .u64) (.cons (.sl (.int .u8)) .nil)))))))))), (59, (.sl (.int .i64))), (61, (.cons (.int .u64) (.cons (.int .u64) (.cons (.int .u64) (.cons (.int .u64) (.cons (.int .u64) (.cons (.int .u64) (.cons (.int .i64) (.cons (.sl (.int .i64)) .nil))))))))), (65, (.cons (.int .u64) (.cons (.int .u64) (.cons (.int .u64) (.cons (.int .u64) (.cons .bool (.cons (.arr 4 (.int .u64)) (.cons (.arr 4 (.int .u64)) (.cons (.arr 4 (.int .u64)) (.cons (.arr 4 (.int .u64)) (.cons (.arr 4 (.int .u64)) .nil))))))))))), (82, (.sl (.int .i64))), (84, (.cons .bool (.cons (.sl (.int .i64)) .nil))), (110, (.sl (.arr 4 (.int .u64)))), (118, (.int .u64)), (134, (.arr 12 .bool)), (138, (.sl (.int .u64))), (139, .opq), (141, .opq), (142, .opq)]
def eqs : List (Nat × Ty) := [(2, (.int .i64)), (3, (.int .i64)), (4, .bool), (5, (.int .u8)), (6, (.int .u8)), (7, (.cons (.int .i64) (.cons (.int .i64) (.cons .bool (.cons (.int .u8) .nil))))), (8, (.cons (.int .i64) (.cons (.int .i64) (.cons .bool (.cons (.int .u8) .nil))))), (22, (.int .u64)), (24, (.arr 4 (.int .u64))), (26, (.cons .bool (.cons (.arr 4 (.int .u64)) .nil))), (28, (.cons (.int .u64) (.cons (.int .u64) (.cons (.int .u64) (.cons (.arr 4 (.int .u64)) (.cons (.int .u64) (.cons (.arr 4 (.int .u64)) (.cons (.int .u64) (.cons (.arr 4 (.int .u64)) (.cons (.int .u64) (.cons (.int .u64) (.cons (.int .u64) (.cons (.int .u64) .nil))))))))))))), (29, (.arr 8 (.int .u64))), (31, (.arr 2 (.cons (.int .u64) (.cons (.int .u64) (.cons (.int .u64) (.cons (.arr 4 (.int .u64)) (.cons (.int .u64) (.cons (.arr 4 (.int .u64)) (.cons (.int .u64) (.cons (.arr 4 (.int .u64)) (.cons (.int .u64) (.cons (.int .u64) (.cons (.int .u64) (.cons (.int .u64) .nil)))))))))))))), (32, (.arr 2 (.int .u64))), (33, (.int .i64)), (65, (.cons (.int .u64) (.cons (.int .u64) (.cons (.int .u64) (.cons (.int .u64) (.cons .bool (.cons (.arr 4 (.int .u64)) (.cons (.arr 4 (.int .u64)) (.cons (.arr 4 (.int .u64)) (.cons (.arr 4 (.int .u64)) (.cons (.arr 4 (.int .u64)) .nil))))))))))), (118, (.int .u64)), (134, (.arr 12 .bool)), (139, .opq), (141, .opq), (142, .opq)]
theorem tysOk : tys.all (fun x => tiB Try.prog x.1 x.2) = true := by kernel_rfl
theorem eqsOk : eqs.all (fun x => eqiB Try.prog x.1 x.2) = true := by kernel_rfl
theorem follows : Try.prog.follows .mixedOrders = true := by kernel_rfl
theorem noOddP : noOdd Try.prog := noOdd_of (by kernel_rfl)
/-- pontage/uint256.FromUint64 -/
noncomputable def uint256_FromUint64C : Con := ⟨_, _, uint256_FromUint64⟩
noncomputable def env45 : Env := mkEnv Try.prog tys eqs []
def ann45 : Anns := fun _ _ => none
theorem ev45 : ∀ x, evalFn env45 ann45 45 ⟨[.pl (.int .u64)], []⟩ ⟨[.pl (.arr 4 (.int .u64))], []⟩ 60 K0 x = uint256_FromUint64 x := by intro x; kernel_rfl
theorem ok45 : ConOk Try.prog 45 uint256_FromUint64C := con_of_ev (E := env45) (envOk tysOk eqsOk (show HowsOk Try.prog [] from trivial) follows) noOddP fun x _ h => ⟨ann45, 60, K0, (ev45 x).trans h⟩
/-- pontage/params.Genesis -/
noncomputable def params_GenesisC : Con := ⟨_, _, params_Genesis⟩
noncomputable def env43 : Env := mkEnv Try.prog tys eqs [(45, .con uint256_FromUint64C)]
def ann43 : Anns := fun _ _ => none
theorem ev43 : ∀ x, evalFn env43 ann43 43 ⟨[], []⟩ ⟨[.pl (.cons (.int .u64) (.cons (.int .u64) (.cons (.int .u64) (.cons (.arr 4 (.int .u64)) (.cons (.int .u64) (.cons (.arr 4 (.int .u64)) (.cons (.int .u64) (.cons (.arr 4 (.int .u64)) (.cons (.int .u64) (.cons (.int .u64) (.cons (.int .u64) (.cons (.int .u64) .nil))))))))))))], []⟩ 60 K0 x = params_Genesis x := by intro x; kernel_rfl
theorem ok43 : ConOk Try.prog 43 params_GenesisC := con_of_ev (E := env43) (envOk tysOk eqsOk (show HowsOk Try.prog [(45, .con uint256_FromUint64C)] from (And.intro ok45 trivial)) follows) noOddP fun x _ h => ⟨ann43, 60, K0, (ev43 x).trans h⟩
/-- pontage/pontagelaw14.ValidParams -/
noncomputable def pontagelaw14_ValidParamsC : Con := ⟨_, _, pontagelaw14_ValidParams⟩
noncomputable def env12 : Env := mkEnv Try.prog tys eqs [(43, .con params_GenesisC)]
def ann12 : Anns := fun _ _ => none
theorem ev12 : ∀ x, evalFn env12 ann12 12 ⟨[.pl (.arr 8 (.int .u64))], []⟩ ⟨[.pl (.cons (.int .u64) (.cons (.int .u64) (.cons (.int .u64) (.cons (.arr 4 (.int .u64)) (.cons (.int .u64) (.cons (.arr 4 (.int .u64)) (.cons (.int .u64) (.cons (.arr 4 (.int .u64)) (.cons (.int .u64) (.cons (.int .u64) (.cons (.int .u64) (.cons (.int .u64) .nil))))))))))))], []⟩ 60 K0 x = pontagelaw14_ValidParams x := by intro x; kernel_rfl
theorem ok12 : ConOk Try.prog 12 pontagelaw14_ValidParamsC := con_of_ev (E := env12) (envOk tysOk eqsOk (show HowsOk Try.prog [(43, .con params_GenesisC)] from (And.intro ok43 trivial)) follows) noOddP fun x _ h => ⟨ann12, 60, K0, (ev12 x).trans h⟩
/-- pontage/int256.Valid -/
noncomputable def int256_ValidC : Con := ⟨_, _, int256_Valid⟩
noncomputable def env20 : Env := mkEnv Try.prog tys eqs []
def ann20 : Anns := fun _ _ => none
theorem ev20 : ∀ x, evalFn env20 ann20 20 ⟨[.pl (.cons .bool (.cons (.arr 4 (.int .u64)) .nil))], []⟩ ⟨[.pl .bool], []⟩ 60 K0 x = int256_Valid x := by intro x; kernel_rfl
theorem ok20 : ConOk Try.prog 20 int256_ValidC := con_of_ev (E := env20) (envOk tysOk eqsOk (show HowsOk Try.prog [] from trivial) follows) noOddP fun x _ h => ⟨ann20, 60, K0, (ev20 x).trans h⟩
/-- pontage/int256.New -/
noncomputable def int256_NewC : Con := ⟨_, _, int256_New⟩
noncomputable def env17 : Env := mkEnv Try.prog tys eqs []
def ann17 : Anns := fun _ _ => none
theorem ev17 : ∀ x, evalFn env17 ann17 17 ⟨[.pl .bool, .pl (.arr 4 (.int .u64))], []⟩ ⟨[.pl (.cons .bool (.cons (.arr 4 (.int .u64)) .nil))], []⟩ 60 K0 x = int256_New x := by intro x; kernel_rfl
theorem ok17 : ConOk Try.prog 17 int256_NewC := con_of_ev (E := env17) (envOk tysOk eqsOk (show HowsOk Try.prog [] from trivial) follows) noOddP fun x _ h => ⟨ann17, 60, K0, (ev17 x).trans h⟩
/-- pontage/int256.Neg -/
noncomputable def int256_NegC : Con := ⟨_, _, int256_Neg⟩
noncomputable def env25 : Env := mkEnv Try.prog tys eqs [(17, .con int256_NewC), (20, .con int256_ValidC)]
def ann25 : Anns := fun _ _ => none
theorem ev25 : ∀ x, evalFn env25 ann25 25 ⟨[.pl (.cons .bool (.cons (.arr 4 (.int .u64)) .nil))], []⟩ ⟨[.pl (.cons .bool (.cons (.arr 4 (.int .u64)) .nil)), .pl (.int .i64)], []⟩ 60 K0 x = int256_Neg x := by intro x; kernel_rfl
theorem ok25 : ConOk Try.prog 25 int256_NegC := con_of_ev (E := env25) (envOk tysOk eqsOk (show HowsOk Try.prog [(17, .con int256_NewC), (20, .con int256_ValidC)] from (And.intro ok17 (And.intro ok20 trivial))) follows) noOddP fun x _ h => ⟨ann25, 60, K0, (ev25 x).trans h⟩
/-- pontage/uint256.Cmp -/
noncomputable def uint256_CmpC : Con := ⟨_, _, uint256_Cmp⟩
noncomputable def env21 : Env := mkEnv Try.prog tys eqs []
def ann21 : Anns := fun p _ => match p with | 1000000 :: _ => none | _ => some (.unroll 6)
theorem ev21 : ∀ x, evalFn env21 ann21 21 ⟨[.pl (.arr 4 (.int .u64)), .pl (.arr 4 (.int .u64))], []⟩ ⟨[.pl (.int .i64)], []⟩ 60 K0 x = uint256_Cmp x := by intro x; kernel_rfl
theorem ok21 : ConOk Try.prog 21 uint256_CmpC := con_of_ev (E := env21) (envOk tysOk eqsOk (show HowsOk Try.prog [] from trivial) follows) noOddP fun x _ h => ⟨ann21, 60, K0, (ev21 x).trans h⟩
theorem ok96 : ConOk Try.prog 96 sub64C := sub64_ok (fn := Try.f96) (by kernel_rfl) (by kernel_rfl) (by kernel_rfl) (by kernel_rfl) (by kernel_rfl)
/-- pontage/uint256.Sub -/
noncomputable def uint256_SubC : Con := ⟨_, _, uint256_Sub⟩
noncomputable def env78 : Env := mkEnv Try.prog tys eqs [(96, .con sub64C)]
def ann78 : Anns := fun p _ => match p with | 1000000 :: _ => none | _ => some (.unroll 6)
theorem ev78 : ∀ x, evalFn env78 ann78 78 ⟨[.pl (.arr 4 (.int .u64)), .pl (.arr 4 (.int .u64))], []⟩ ⟨[.pl (.arr 4 (.int .u64)), .pl (.int .i64)], []⟩ 60 K0 x = uint256_Sub x := by intro x; kernel_rfl
theorem ok78 : ConOk Try.prog 78 uint256_SubC := con_of_ev (E := env78) (envOk tysOk eqsOk (show HowsOk Try.prog [(96, .con sub64C)] from (And.intro ok96 trivial)) follows) noOddP fun x _ h => ⟨ann78, 60, K0, (ev78 x).trans h⟩
/-- pontage/uint256.SaturatingSub -/
noncomputable def uint256_SaturatingSubC : Con := ⟨_, _, uint256_SaturatingSub⟩
noncomputable def env35 : Env := mkEnv Try.prog tys eqs [(78, .con uint256_SubC)]
def ann35 : Anns := fun _ _ => none
theorem ev35 : ∀ x, evalFn env35 ann35 35 ⟨[.pl (.arr 4 (.int .u64)), .pl (.arr 4 (.int .u64))], []⟩ ⟨[.pl (.arr 4 (.int .u64))], []⟩ 60 K0 x = uint256_SaturatingSub x := by intro x; kernel_rfl
theorem ok35 : ConOk Try.prog 35 uint256_SaturatingSubC := con_of_ev (E := env35) (envOk tysOk eqsOk (show HowsOk Try.prog [(78, .con uint256_SubC)] from (And.intro ok78 trivial)) follows) noOddP fun x _ h => ⟨ann35, 60, K0, (ev35 x).trans h⟩
/-- pontage/int256.Diff -/
noncomputable def int256_DiffC : Con := ⟨_, _, int256_Diff⟩
noncomputable def env60 : Env := mkEnv Try.prog tys eqs [(17, .con int256_NewC), (21, .con uint256_CmpC), (35, .con uint256_SaturatingSubC)]
def ann60 : Anns := fun _ _ => none
theorem ev60 : ∀ x, evalFn env60 ann60 60 ⟨[.pl (.arr 4 (.int .u64)), .pl (.arr 4 (.int .u64))], []⟩ ⟨[.pl (.cons .bool (.cons (.arr 4 (.int .u64)) .nil))], []⟩ 60 K0 x = int256_Diff x := by intro x; kernel_rfl
theorem ok60 : ConOk Try.prog 60 int256_DiffC := con_of_ev (E := env60) (envOk tysOk eqsOk (show HowsOk Try.prog [(17, .con int256_NewC), (21, .con uint256_CmpC), (35, .con uint256_SaturatingSubC)] from (And.intro ok17 (And.intro ok21 (And.intro ok35 trivial)))) follows) noOddP fun x _ h => ⟨ann60, 60, K0, (ev60 x).trans h⟩
theorem ok82 : ConOk Try.prog 82 add64C := add64_ok (fn := Try.f82) (by kernel_rfl) (by kernel_rfl) (by kernel_rfl) (by kernel_rfl) (by kernel_rfl)
/-- pontage/uint256.Add -/
noncomputable def uint256_AddC : Con := ⟨_, _, uint256_Add⟩
noncomputable def env61 : Env := mkEnv Try.prog tys eqs [(82, .con add64C)]
def ann61 : Anns := fun p _ => match p with | 1000000 :: _ => none | _ => some (.unroll 6)
theorem ev61 : ∀ x, evalFn env61 ann61 61 ⟨[.pl (.arr 4 (.int .u64)), .pl (.arr 4 (.int .u64))], []⟩ ⟨[.pl (.arr 4 (.int .u64)), .pl (.int .i64)], []⟩ 60 K0 x = uint256_Add x := by intro x; kernel_rfl
theorem ok61 : ConOk Try.prog 61 uint256_AddC := con_of_ev (E := env61) (envOk tysOk eqsOk (show HowsOk Try.prog [(82, .con add64C)] from (And.intro ok82 trivial)) follows) noOddP fun x _ h => ⟨ann61, 60, K0, (ev61 x).trans h⟩
/-- pontage/int256.Add -/
noncomputable def int256_AddC : Con := ⟨_, _, int256_Add⟩
noncomputable def env64 : Env := mkEnv Try.prog tys eqs [(17, .con int256_NewC), (20, .con int256_ValidC), (60, .con int256_DiffC), (61, .con uint256_AddC)]
def ann64 : Anns := fun p c => match p, c with | [1000000, 64], 4 => some (.join ⟨[.dead, .dead, .ptr 0 [], .ptr 1 [], .ptr 2 [], .dead, .dead, .dead, .dead, .dead, .dead, .dead, .dead, .dead, .dead, .dead, .dead, .dead, .dead, .dead, .dead, .dead, .dead, .dead, .dead, .dead, .dead, .dead, .dead, .dead, .dead, .dead, .dead, .dead, .dead, .dead, .dead, .dead, .dead, .dead, .dead, .dead, .dead, .dead, .dead, .dead, .dead, .dead, .dead, .dead], [.box (.cons .bool (.cons (.arr 4 (.int .u64)) .nil)) (.pl (.cons .bool (.cons (.arr 4 (.int .u64)) .nil))), .box (.cons .bool (.cons (.arr 4 (.int .u64)) .nil)) (.pl (.cons .bool (.cons (.arr 4 (.int .u64)) .nil))), .box (.cons .bool (.cons (.arr 4 (.int .u64)) .nil)) (.pl (.cons .bool (.cons (.arr 4 (.int .u64)) .nil)))]⟩) | _, _ => none
theorem ev64 : ∀ x, evalFn env64 ann64 64 ⟨[.pl (.cons .bool (.cons (.arr 4 (.int .u64)) .nil)), .pl (.cons .bool (.cons (.arr 4 (.int .u64)) .nil))], []⟩ ⟨[.pl (.cons .bool (.cons (.arr 4 (.int .u64)) .nil)), .pl (.int .i64)], []⟩ 60 K0 x = int256_Add x := by intro x; kernel_rfl
theorem ok64 : ConOk Try.prog 64 int256_AddC := con_of_ev (E := env64) (envOk tysOk eqsOk (show HowsOk Try.prog [(17, .con int256_NewC), (20, .con int256_ValidC), (60, .con int256_DiffC), (61, .con uint256_AddC)] from (And.intro ok17 (And.intro ok20 (And.intro ok60 (And.intro ok61 trivial))))) follows) noOddP fun x _ h => ⟨ann64, 60, K0, (ev64 x).trans h⟩
/-- pontage/int256.Sub -/
noncomputable def int256_SubC : Con := ⟨_, _, int256_Sub⟩
noncomputable def env26 : Env := mkEnv Try.prog tys eqs [(20, .con int256_ValidC), (25, .con int256_NegC), (64, .con int256_AddC)]
def ann26 : Anns := fun p c => match p, c with | [1000000, 26], 5 => some (.join ⟨[.dead, .dead, .ptr 0 [], .dead, .ptr 1 [], .dead, .ptr 2 [], .dead, .dead, .dead, .dead, .dead, .dead, .dead, .dead, .dead, .dead, .dead, .dead, .dead, .dead, .dead, .dead, .dead, .dead, .dead], [.box (.cons .bool (.cons (.arr 4 (.int .u64)) .nil)) (.pl (.cons .bool (.cons (.arr 4 (.int .u64)) .nil))), .box (.cons .bool (.cons (.arr 4 (.int .u64)) .nil)) (.pl (.cons .bool (.cons (.arr 4 (.int .u64)) .nil))), .box (.cons .bool (.cons (.arr 4 (.int .u64)) .nil)) (.pl (.cons .bool (.cons (.arr 4 (.int .u64)) .nil)))]⟩) | _, _ => none
theorem ev26 : ∀ x, evalFn env26 ann26 26 ⟨[.pl (.cons .bool (.cons (.arr 4 (.int .u64)) .nil)), .pl (.cons .bool (.cons (.arr 4 (.int .u64)) .nil))], []⟩ ⟨[.pl (.cons .bool (.cons (.arr 4 (.int .u64)) .nil)), .pl (.int .i64)], []⟩ 60 K0 x = int256_Sub x := by intro x; kernel_rfl
theorem ok26 : ConOk Try.prog 26 int256_SubC := con_of_ev (E := env26) (envOk tysOk eqsOk (show HowsOk Try.prog [(20, .con int256_ValidC), (25, .con int256_NegC), (64, .con int256_AddC)] from (And.intro ok20 (And.intro ok25 (And.intro ok64 trivial)))) follows) noOddP fun x _ h => ⟨ann26, 60, K0, (ev26 x).trans h⟩
/-- pontage/muldiv.shiftLeft -/
noncomputable def muldiv_shiftLeftC : Con := ⟨_, _, muldiv_shiftLeft⟩
noncomputable def env102 : Env := mkEnv Try.prog tys eqs []
def ann102 : Anns := fun p c => match p, c with | [102], 0 => some (.tmpl ⟨[.dead, .pl (.int .u64), .ptr 0 [], .dead, .ptr 1 [], .dead, .pl (.int .u64), .pl (.int .i64), .dead, .dead, .dead, .dead, .dead, .dead, .dead, .dead, .dead, .dead, .dead, .dead, .dead, .dead, .dead, .dead, .dead, .dead, .dead, .dead, .dead, .dead, .dead, .dead, .dead, .dead, .dead], [.box (.arr 4 (.int .u64)) (.pl (.arr 4 (.int .u64))), .box (.arr 4 (.int .u64)) (.pl (.arr 4 (.int .u64)))]⟩) | _, _ => none
theorem ev102 : ∀ x, evalFn env102 ann102 102 ⟨[.pl (.arr 4 (.int .u64)), .pl (.int .u64)], []⟩ ⟨[.pl (.arr 4 (.int .u64)), .pl (.int .u64)], []⟩ 60 K0 x = muldiv_shiftLeft x := by intro x; kernel_rfl
theorem ok102 : ConOk Try.prog 102 muldiv_shiftLeftC := con_of_ev (E := env102) (envOk tysOk eqsOk (show HowsOk Try.prog [] from trivial) follows) noOddP fun x _ h => ⟨ann102, 60, K0, (ev102 x).trans h⟩
/-- pontage/muldiv.subWrap -/
noncomputable def muldiv_subWrapC : Con := ⟨_, _, muldiv_subWrap⟩
noncomputable def env103 : Env := mkEnv Try.prog tys eqs [(96, .con sub64C)]
def ann103 : Anns := fun p c => match p, c with | [103], 0 => some (.tmpl ⟨[.dead, .dead, .ptr 0 [], .ptr 1 [], .ptr 2 [], .pl (.int .u64), .dead, .pl (.int .i64), .dead, .dead, .dead, .dead, .dead, .dead, .dead, .dead, .dead, .dead, .dead, .dead, .dead, .dead, .dead, .dead, .dead], [.box (.arr 4 (.int .u64)) (.pl (.arr 4 (.int .u64))), .box (.arr 4 (.int .u64)) (.pl (.arr 4 (.int .u64))), .box (.arr 4 (.int .u64)) (.pl (.arr 4 (.int .u64)))]⟩) | _, _ => none
theorem ev103 : ∀ x, evalFn env103 ann103 103 ⟨[.pl (.arr 4 (.int .u64)), .pl (.arr 4 (.int .u64))], []⟩ ⟨[.pl (.arr 4 (.int .u64))], []⟩ 60 K0 x = muldiv_subWrap x := by intro x; kernel_rfl
theorem ok103 : ConOk Try.prog 103 muldiv_subWrapC := con_of_ev (E := env103) (envOk tysOk eqsOk (show HowsOk Try.prog [(96, .con sub64C)] from (And.intro ok96 trivial)) follows) noOddP fun x _ h => ⟨ann103, 60, K0, (ev103 x).trans h⟩
/-- pontage/muldiv.Div512 -/
noncomputable def muldiv_Div512C : Con := ⟨_, _, muldiv_Div512⟩
noncomputable def env90 : Env := mkEnv Try.prog tys eqs [(21, .con uint256_CmpC), (102, .con muldiv_shiftLeftC), (103, .con muldiv_subWrapC)]
def ann90 : Anns := fun p c => match p, c with | [90], 0 => some (.tmpl ⟨[.dead, .dead, .dead, .ptr 0 [], .dead, .ptr 1 [], .ptr 2 [], .ptr 3 [], .dead, .pl (.int .i64), .dead, .dead, .dead, .dead, .dead, .dead, .dead, .dead, .dead, .dead, .dead, .dead, .dead, .dead, .dead, .dead, .dead, .dead, .dead, .dead, .dead, .dead, .dead, .dead, .dead, .dead, .dead, .dead, .dead, .dead, .dead, .dead, .dead, .dead, .dead, .dead, .dead, .dead, .dead, .dead, .dead, .dead, .dead, .dead, .dead, .dead, .dead, .dead, .dead, .dead, .dead, .dead], [.box (.arr 4 (.int .u64)) (.pl (.arr 4 (.int .u64))), .box (.arr 4 (.int .u64)) (.pl (.arr 4 (.int .u64))), .box (.arr 4 (.int .u64)) (.pl (.arr 4 (.int .u64))), .box (.arr 4 (.int .u64)) (.pl (.arr 4 (.int .u64)))]⟩) | _, _ => none
theorem ev90 : ∀ x, evalFn env90 ann90 90 ⟨[.pl (.arr 4 (.int .u64)), .pl (.arr 4 (.int .u64)), .pl (.arr 4 (.int .u64))], []⟩ ⟨[.pl (.arr 4 (.int .u64)), .pl (.arr 4 (.int .u64)), .pl (.int .i64)], []⟩ 60 K0 x = muldiv_Div512 x := by intro x; kernel_rfl
theorem ok90 : ConOk Try.prog 90 muldiv_Div512C := con_of_ev (E := env90) (envOk tysOk eqsOk (show HowsOk Try.prog [(21, .con uint256_CmpC), (102, .con muldiv_shiftLeftC), (103, .con muldiv_subWrapC)] from (And.intro ok21 (And.intro ok102 (And.intro ok103 trivial)))) follows) noOddP fun x _ h => ⟨ann90, 60, K0, (ev90 x).trans h⟩
/-- pontage/muldiv.DivMod -/
noncomputable def muldiv_DivModC : Con := ⟨_, _, muldiv_DivMod⟩
noncomputable def env65 : Env := mkEnv Try.prog tys eqs [(90, .con muldiv_Div512C)]
def ann65 : Anns := fun _ _ => none
theorem ev65 : ∀ x, evalFn env65 ann65 65 ⟨[.pl (.arr 4 (.int .u64)), .pl (.arr 4 (.int .u64))], []⟩ ⟨[.pl (.arr 4 (.int .u64)), .pl (.arr 4 (.int .u64)), .pl (.int .i64)], []⟩ 60 K0 x = muldiv_DivMod x := by intro x; kernel_rfl
theorem ok65 : ConOk Try.prog 65 muldiv_DivModC := con_of_ev (E := env65) (envOk tysOk eqsOk (show HowsOk Try.prog [(90, .con muldiv_Div512C)] from (And.intro ok90 trivial)) follows) noOddP fun x _ h => ⟨ann65, 60, K0, (ev65 x).trans h⟩
/-- pontage/int256.DivFloor -/
noncomputable def int256_DivFloorC : Con := ⟨_, _, int256_DivFloor⟩
noncomputable def env27 : Env := mkEnv Try.prog tys eqs [(17, .con int256_NewC), (20, .con int256_ValidC), (45, .con uint256_FromUint64C), (61, .con uint256_AddC), (65, .con muldiv_DivModC)]
def ann27 : Anns := fun p c => match p, c with | [1000000, 27], 8 => some (.join ⟨[.dead, .dead, .ptr 0 [], .dead, .ptr 1 [], .dead, .ptr 2 [], .dead, .dead, .dead, .dead, .dead, .dead, .dead, .dead, .dead, .dead, .dead, .dead, .dead, .dead, .dead, .dead, .dead, .dead, .dead, .dead, .dead, .dead, .dead, .dead, .pl .bool, .dead, .dead, .dead, .dead, .dead, .dead, .dead, .dead, .dead, .dead], [.box (.cons .bool (.cons (.arr 4 (.int .u64)) .nil)) (.pl (.cons .bool (.cons (.arr 4 (.int .u64)) .nil))), .box (.cons .bool (.cons (.arr 4 (.int .u64)) .nil)) (.pl (.cons .bool (.cons (.arr 4 (.int .u64)) .nil))), .box (.arr 4 (.int .u64)) (.pl (.arr 4 (.int .u64)))]⟩) | _, _ => none
theorem ev27 : ∀ x, evalFn env27 ann27 27 ⟨[.pl (.cons .bool (.cons (.arr 4 (.int .u64)) .nil)), .pl (.arr 4 (.int .u64))], []⟩ ⟨[.pl (.cons .bool (.cons (.arr 4 (.int .u64)) .nil)), .pl (.int .i64)], []⟩ 60 K0 x = int256_DivFloor x := by intro x; kernel_rfl
theorem ok27 : ConOk Try.prog 27 int256_DivFloorC := con_of_ev (E := env27) (envOk tysOk eqsOk (show HowsOk Try.prog [(17, .con int256_NewC), (20, .con int256_ValidC), (45, .con uint256_FromUint64C), (61, .con uint256_AddC), (65, .con muldiv_DivModC)] from (And.intro ok17 (And.intro ok20 (And.intro ok45 (And.intro ok61 (And.intro ok65 trivial)))))) follows) noOddP fun x _ h => ⟨ann27, 60, K0, (ev27 x).trans h⟩
/-- pontage/uint256.maxValue -/
noncomputable def uint256_maxValueC : Con := ⟨_, _, uint256_maxValue⟩
noncomputable def env79 : Env := mkEnv Try.prog tys eqs []
def ann79 : Anns := fun _ _ => none
theorem ev79 : ∀ x, evalFn env79 ann79 79 ⟨[], []⟩ ⟨[.pl (.arr 4 (.int .u64))], []⟩ 60 K0 x = uint256_maxValue x := by intro x; kernel_rfl
theorem ok79 : ConOk Try.prog 79 uint256_maxValueC := con_of_ev (E := env79) (envOk tysOk eqsOk (show HowsOk Try.prog [] from trivial) follows) noOddP fun x _ h => ⟨ann79, 60, K0, (ev79 x).trans h⟩
/-- pontage/uint256.SaturatingAdd -/
noncomputable def uint256_SaturatingAddC : Con := ⟨_, _, uint256_SaturatingAdd⟩
noncomputable def env39 : Env := mkEnv Try.prog tys eqs [(61, .con uint256_AddC), (79, .con uint256_maxValueC)]
def ann39 : Anns := fun _ _ => none
theorem ev39 : ∀ x, evalFn env39 ann39 39 ⟨[.pl (.arr 4 (.int .u64)), .pl (.arr 4 (.int .u64))], []⟩ ⟨[.pl (.arr 4 (.int .u64))], []⟩ 60 K0 x = uint256_SaturatingAdd x := by intro x; kernel_rfl
theorem ok39 : ConOk Try.prog 39 uint256_SaturatingAddC := con_of_ev (E := env39) (envOk tysOk eqsOk (show HowsOk Try.prog [(61, .con uint256_AddC), (79, .con uint256_maxValueC)] from (And.intro ok61 (And.intro ok79 trivial))) follows) noOddP fun x _ h => ⟨ann39, 60, K0, (ev39 x).trans h⟩
/-- pontage/params.Get -/
noncomputable def params_GetC : Con := ⟨_, _, params_Get⟩
noncomputable def env98 : Env := mkEnv Try.prog tys eqs [(45, .con uint256_FromUint64C), (106, .inl), (107, .inl)]
def ann98 : Anns := fun _ _ => none
theorem ev98 : ∀ x, evalFn env98 ann98 98 ⟨[.pl (.cons (.int .u64) (.cons (.int .u64) (.cons (.int .u64) (.cons (.arr 4 (.int .u64)) (.cons (.int .u64) (.cons (.arr 4 (.int .u64)) (.cons (.int .u64) (.cons (.arr 4 (.int .u64)) (.cons (.int .u64) (.cons (.int .u64) (.cons (.int .u64) (.cons (.int .u64) .nil)))))))))))), .pl (.int .i64)], []⟩ ⟨[.pl (.arr 4 (.int .u64)), .pl (.int .i64)], []⟩ 90 K0 x = params_Get x := by intro x; kernel_rfl
theorem ok98 : ConOk Try.prog 98 params_GetC := con_of_ev (E := env98) (envOk tysOk eqsOk (show HowsOk Try.prog [(45, .con uint256_FromUint64C), (106, .inl), (107, .inl)] from (And.intro ok45 trivial)) follows) noOddP fun x _ h => ⟨ann98, 90, K0, (ev98 x).trans h⟩
/-- pontage/params.bounds -/
noncomputable def params_boundsC : Con := ⟨_, _, params_bounds⟩
noncomputable def env99 : Env := mkEnv Try.prog tys eqs []
def ann99 : Anns := fun p c => match p, c with | [1000000, 99], 12 => some (.join ⟨[.dead, .dead, .ptr 0 [], .dead, .dead, .dead, .pl (.int .i64), .dead, .dead, .dead, .dead, .dead, .dead, .dead, .pl .bool, .dead, .dead, .dead, .dead, .dead, .dead, .dead, .dead, .dead, .dead], [.box (.cons (.int .u64) (.cons (.int .u64) (.cons (.int .u64) (.cons (.arr 4 (.int .u64)) (.cons (.int .u64) (.cons (.arr 4 (.int .u64)) (.cons (.int .u64) (.cons (.arr 4 (.int .u64)) (.cons (.int .u64) (.cons (.int .u64) (.cons (.int .u64) (.cons (.int .u64) .nil)))))))))))) (.pl (.cons (.int .u64) (.cons (.int .u64) (.cons (.int .u64) (.cons (.arr 4 (.int .u64)) (.cons (.int .u64) (.cons (.arr 4 (.int .u64)) (.cons (.int .u64) (.cons (.arr 4 (.int .u64)) (.cons (.int .u64) (.cons (.int .u64) (.cons (.int .u64) (.cons (.int .u64) .nil)))))))))))))]⟩) | [1000000, 99], 6 => some (.join ⟨[.dead, .dead, .ptr 0 [], .dead, .dead, .dead, .pl (.int .i64), .pl .bool, .dead, .dead, .dead, .dead, .dead, .dead, .dead, .dead, .dead, .dead, .dead, .dead, .dead, .dead, .dead, .dead, .dead], [.box (.cons (.int .u64) (.cons (.int .u64) (.cons (.int .u64) (.cons (.arr 4 (.int .u64)) (.cons (.int .u64) (.cons (.arr 4 (.int .u64)) (.cons (.int .u64) (.cons (.arr 4 (.int .u64)) (.cons (.int .u64) (.cons (.int .u64) (.cons (.int .u64) (.cons (.int .u64) .nil)))))))))))) (.pl (.cons (.int .u64) (.cons (.int .u64) (.cons (.int .u64) (.cons (.arr 4 (.int .u64)) (.cons (.int .u64) (.cons (.arr 4 (.int .u64)) (.cons (.int .u64) (.cons (.arr 4 (.int .u64)) (.cons (.int .u64) (.cons (.int .u64) (.cons (.int .u64) (.cons (.int .u64) .nil)))))))))))))]⟩) | [1000000, 99], 9 => some (.join ⟨[.dead, .dead, .ptr 0 [], .dead, .dead, .dead, .pl (.int .i64), .dead, .dead, .dead, .dead, .pl .bool, .dead, .dead, .dead, .dead, .dead, .dead, .dead, .dead, .dead, .dead, .dead, .dead, .dead], [.box (.cons (.int .u64) (.cons (.int .u64) (.cons (.int .u64) (.cons (.arr 4 (.int .u64)) (.cons (.int .u64) (.cons (.arr 4 (.int .u64)) (.cons (.int .u64) (.cons (.arr 4 (.int .u64)) (.cons (.int .u64) (.cons (.int .u64) (.cons (.int .u64) (.cons (.int .u64) .nil)))))))))))) (.pl (.cons (.int .u64) (.cons (.int .u64) (.cons (.int .u64) (.cons (.arr 4 (.int .u64)) (.cons (.int .u64) (.cons (.arr 4 (.int .u64)) (.cons (.int .u64) (.cons (.arr 4 (.int .u64)) (.cons (.int .u64) (.cons (.int .u64) (.cons (.int .u64) (.cons (.int .u64) .nil)))))))))))))]⟩) | _, _ => none
theorem ev99 : ∀ x, evalFn env99 ann99 99 ⟨[.pl (.cons (.int .u64) (.cons (.int .u64) (.cons (.int .u64) (.cons (.arr 4 (.int .u64)) (.cons (.int .u64) (.cons (.arr 4 (.int .u64)) (.cons (.int .u64) (.cons (.arr 4 (.int .u64)) (.cons (.int .u64) (.cons (.int .u64) (.cons (.int .u64) (.cons (.int .u64) .nil)))))))))))), .pl (.int .i64)], []⟩ ⟨[.pl (.int .u64), .pl (.int .u64)], []⟩ 60 K0 x = params_bounds x := by intro x; kernel_rfl
theorem ok99 : ConOk Try.prog 99 params_boundsC := con_of_ev (E := env99) (envOk tysOk eqsOk (show HowsOk Try.prog [] from trivial) follows) noOddP fun x _ h => ⟨ann99, 60, K0, (ev99 x).trans h⟩
/-- pontage/params.FirstInvalid -/
noncomputable def params_FirstInvalidC : Con := ⟨_, _, params_FirstInvalid⟩
noncomputable def env83 : Env := mkEnv Try.prog tys eqs [(21, .con uint256_CmpC), (45, .con uint256_FromUint64C), (98, .con params_GetC), (99, .con params_boundsC)]
def ann83 : Anns := fun p c => match p, c with | [83], 0 => some (.tmpl ⟨[.dead, .ptr 0 [], .dead, .pl (.int .i64), .dead, .dead, .dead, .dead, .dead, .dead, .dead, .dead, .dead, .dead, .dead, .dead, .dead, .dead, .dead, .dead, .dead, .dead, .dead, .dead, .dead, .dead, .dead, .dead, .dead, .dead, .dead, .dead, .dead, .dead, .dead, .dead, .dead], [.box (.cons (.int .u64) (.cons (.int .u64) (.cons (.int .u64) (.cons (.arr 4 (.int .u64)) (.cons (.int .u64) (.cons (.arr 4 (.int .u64)) (.cons (.int .u64) (.cons (.arr 4 (.int .u64)) (.cons (.int .u64) (.cons (.int .u64) (.cons (.int .u64) (.cons (.int .u64) .nil)))))))))))) (.pl (.cons (.int .u64) (.cons (.int .u64) (.cons (.int .u64) (.cons (.arr 4 (.int .u64)) (.cons (.int .u64) (.cons (.arr 4 (.int .u64)) (.cons (.int .u64) (.cons (.arr 4 (.int .u64)) (.cons (.int .u64) (.cons (.int .u64) (.cons (.int .u64) (.cons (.int .u64) .nil)))))))))))))]⟩) | _, _ => none
theorem ev83 : ∀ x, evalFn env83 ann83 83 ⟨[.pl (.cons (.int .u64) (.cons (.int .u64) (.cons (.int .u64) (.cons (.arr 4 (.int .u64)) (.cons (.int .u64) (.cons (.arr 4 (.int .u64)) (.cons (.int .u64) (.cons (.arr 4 (.int .u64)) (.cons (.int .u64) (.cons (.int .u64) (.cons (.int .u64) (.cons (.int .u64) .nil))))))))))))], []⟩ ⟨[.pl (.int .i64)], []⟩ 60 K0 x = params_FirstInvalid x := by intro x; kernel_rfl
theorem ok83 : ConOk Try.prog 83 params_FirstInvalidC := con_of_ev (E := env83) (envOk tysOk eqsOk (show HowsOk Try.prog [(21, .con uint256_CmpC), (45, .con uint256_FromUint64C), (98, .con params_GetC), (99, .con params_boundsC)] from (And.intro ok21 (And.intro ok45 (And.intro ok98 (And.intro ok99 trivial))))) follows) noOddP fun x _ h => ⟨ann83, 60, K0, (ev83 x).trans h⟩
/-- pontage/params.Valid -/
noncomputable def params_ValidC : Con := ⟨_, _, params_Valid⟩
noncomputable def env44 : Env := mkEnv Try.prog tys eqs [(83, .con params_FirstInvalidC)]
def ann44 : Anns := fun _ _ => none
theorem ev44 : ∀ x, evalFn env44 ann44 44 ⟨[.pl (.cons (.int .u64) (.cons (.int .u64) (.cons (.int .u64) (.cons (.arr 4 (.int .u64)) (.cons (.int .u64) (.cons (.arr 4 (.int .u64)) (.cons (.int .u64) (.cons (.arr 4 (.int .u64)) (.cons (.int .u64) (.cons (.int .u64) (.cons (.int .u64) (.cons (.int .u64) .nil))))))))))))], []⟩ ⟨[.pl .bool], []⟩ 60 K0 x = params_Valid x := by intro x; kernel_rfl
theorem ok44 : ConOk Try.prog 44 params_ValidC := con_of_ev (E := env44) (envOk tysOk eqsOk (show HowsOk Try.prog [(83, .con params_FirstInvalidC)] from (And.intro ok83 trivial)) follows) noOddP fun x _ h => ⟨ann44, 60, K0, (ev44 x).trans h⟩
/-- math/bits.Mul64 -/
noncomputable def math_bits_Mul64C : Con := ⟨_, _, math_bits_Mul64⟩
noncomputable def env81 : Env := mkEnv Try.prog tys eqs []
def ann81 : Anns := fun _ _ => none
theorem ev81 : ∀ x, evalFn env81 ann81 81 ⟨[.pl (.int .u64), .pl (.int .u64)], []⟩ ⟨[.pl (.int .u64), .pl (.int .u64)], []⟩ 60 K0 x = math_bits_Mul64 x := by intro x; kernel_rfl
theorem ok81 : ConOk Try.prog 81 math_bits_Mul64C := con_of_ev (E := env81) (envOk tysOk eqsOk (show HowsOk Try.prog [] from trivial) follows) noOddP fun x _ h => ⟨ann81, 60, K0, (ev81 x).trans h⟩
/-- pontage/uint256.Mul -/
noncomputable def uint256_MulC : Con := ⟨_, _, uint256_Mul⟩
noncomputable def env42 : Env := mkEnv Try.prog tys eqs [(81, .con math_bits_Mul64C), (82, .con add64C)]
def ann42 : Anns := fun p c => match p, c with | [42], 0 => some (.tmpl ⟨[.dead, .dead, .ptr 0 [], .ptr 1 [], .ptr 2 [], .dead, .ptr 3 [], .dead, .dead, .dead, .dead, .dead, .dead, .pl (.int .i64), .dead, .dead, .dead, .dead, .dead, .dead, .dead, .dead, .dead, .dead, .dead, .dead, .dead, .dead, .dead, .dead, .dead, .dead, .dead, .dead, .dead, .dead, .dead, .dead, .dead, .dead, .dead, .dead, .dead, .dead, .dead, .dead, .dead, .dead, .dead, .dead, .dead, .dead, .dead, .dead, .dead, .dead, .dead, .dead, .dead, .dead, .dead, .dead, .dead, .dead, .dead, .dead, .dead, .dead, .dead, .dead], [.box (.arr 4 (.int .u64)) (.pl (.arr 4 (.int .u64))), .box (.arr 4 (.int .u64)) (.pl (.arr 4 (.int .u64))), .box (.arr 4 (.int .u64)) (.pl (.arr 4 (.int .u64))), .box (.arr 4 (.int .u64)) (.pl (.arr 4 (.int .u64)))]⟩) | [42], 2 => some (.tmpl ⟨[.dead, .dead, .ptr 0 [], .ptr 1 [], .ptr 2 [], .dead, .ptr 3 [], .pl (.int .i64), .pl (.int .u64), .dead, .dead, .dead, .dead, .pl (.int .i64), .dead, .dead, .pl (.int .i64), .dead, .dead, .dead, .dead, .dead, .dead, .dead, .dead, .dead, .dead, .dead, .dead, .dead, .dead, .dead, .dead, .dead, .dead, .dead, .dead, .dead, .dead, .dead, .dead, .dead, .dead, .dead, .dead, .dead, .dead, .dead, .dead, .dead, .dead, .dead, .dead, .dead, .dead, .dead, .dead, .dead, .dead, .dead, .dead, .dead, .dead, .dead, .dead, .dead, .dead, .dead, .dead, .dead], [.box (.arr 4 (.int .u64)) (.pl (.arr 4 (.int .u64))), .box (.arr 4 (.int .u64)) (.pl (.arr 4 (.int .u64))), .box (.arr 4 (.int .u64)) (.pl (.arr 4 (.int .u64))), .box (.arr 4 (.int .u64)) (.pl (.arr 4 (.int .u64)))]⟩) | _, _ => none
theorem ev42 : ∀ x, evalFn env42 ann42 42 ⟨[.pl (.arr 4 (.int .u64)), .pl (.arr 4 (.int .u64))], []⟩ ⟨[.pl (.arr 4 (.int .u64)), .pl (.int .i64)], []⟩ 60 K0 x = uint256_Mul x := by intro x; kernel_rfl
theorem ok42 : ConOk Try.prog 42 uint256_MulC := con_of_ev (E := env42) (envOk tysOk eqsOk (show HowsOk Try.prog [(81, .con math_bits_Mul64C), (82, .con add64C)] from (And.intro ok81 (And.intro ok82 trivial))) follows) noOddP fun x _ h => ⟨ann42, 60, K0, (ev42 x).trans h⟩
/-- pontage/int256.Mul -/
noncomputable def int256_MulC : Con := ⟨_, _, int256_Mul⟩
noncomputable def env46 : Env := mkEnv Try.prog tys eqs [(17, .con int256_NewC), (20, .con int256_ValidC), (42, .con uint256_MulC)]
def ann46 : Anns := fun p c => match p, c with | [1000000, 46], 4 => some (.join ⟨[.dead, .dead, .ptr 0 [], .ptr 1 [], .ptr 2 [], .dead, .dead, .dead, .dead, .dead, .dead, .dead, .dead, .dead, .dead, .dead, .dead, .dead, .dead, .dead, .dead, .dead, .dead, .dead, .dead, .dead, .dead, .dead, .dead, .dead, .dead, .dead, .dead, .dead, .dead, .dead], [.box (.cons .bool (.cons (.arr 4 (.int .u64)) .nil)) (.pl (.cons .bool (.cons (.arr 4 (.int .u64)) .nil))), .box (.cons .bool (.cons (.arr 4 (.int .u64)) .nil)) (.pl (.cons .bool (.cons (.arr 4 (.int .u64)) .nil))), .box (.cons .bool (.cons (.arr 4 (.int .u64)) .nil)) (.pl (.cons .bool (.cons (.arr 4 (.int .u64)) .nil)))]⟩) | _, _ => none
theorem ev46 : ∀ x, evalFn env46 ann46 46 ⟨[.pl (.cons .bool (.cons (.arr 4 (.int .u64)) .nil)), .pl (.cons .bool (.cons (.arr 4 (.int .u64)) .nil))], []⟩ ⟨[.pl (.cons .bool (.cons (.arr 4 (.int .u64)) .nil)), .pl (.int .i64)], []⟩ 60 K0 x = int256_Mul x := by intro x; kernel_rfl
theorem ok46 : ConOk Try.prog 46 int256_MulC := con_of_ev (E := env46) (envOk tysOk eqsOk (show HowsOk Try.prog [(17, .con int256_NewC), (20, .con int256_ValidC), (42, .con uint256_MulC)] from (And.intro ok17 (And.intro ok20 (And.intro ok42 trivial)))) follows) noOddP fun x _ h => ⟨ann46, 60, K0, (ev46 x).trans h⟩
/-- pontage/l1price.Delta -/
noncomputable def l1price_DeltaC : Con := ⟨_, _, l1price_Delta⟩
noncomputable def env13 : Env := mkEnv Try.prog tys eqs [(20, .con int256_ValidC), (25, .con int256_NegC), (26, .con int256_SubC), (27, .con int256_DivFloorC), (39, .con uint256_SaturatingAddC), (44, .con params_ValidC), (45, .con uint256_FromUint64C), (46, .con int256_MulC)]
def ann13 : Anns := fun p c => match p, c with | [1000000, 13], 6 => some (.join ⟨[.dead, .dead, .pl (.int .u64), .dead, .ptr 0 [], .ptr 1 [], .dead, .ptr 2 [], .ptr 3 [], .dead, .dead, .dead, .dead, .dead, .dead, .dead, .dead, .dead, .dead, .dead, .dead, .dead, .dead, .dead, .dead, .dead, .dead, .dead, .dead, .dead, .dead, .dead, .dead, .dead, .dead, .dead, .dead, .dead, .dead, .dead, .dead, .dead, .dead, .dead, .dead, .dead, .dead, .dead, .dead, .dead, .dead, .dead, .dead, .dead, .dead, .dead, .dead, .dead, .dead, .dead, .dead, .dead, .dead, .dead, .dead, .dead, .dead, .dead, .dead, .dead, .dead, .dead, .dead, .dead, .dead, .dead, .dead, .dead, .dead, .dead, .dead, .dead, .dead, .dead, .dead, .dead, .dead, .dead, .dead, .dead, .dead, .dead, .dead, .dead, .dead, .dead, .dead, .dead, .dead, .dead, .dead, .dead, .dead, .dead, .dead], [.box (.cons .bool (.cons (.arr 4 (.int .u64)) .nil)) (.pl (.cons .bool (.cons (.arr 4 (.int .u64)) .nil))), .box (.cons .bool (.cons (.arr 4 (.int .u64)) .nil)) (.pl (.cons .bool (.cons (.arr 4 (.int .u64)) .nil))), .box (.cons (.int .u64) (.cons (.int .u64) (.cons (.int .u64) (.cons (.arr 4 (.int .u64)) (.cons (.int .u64) (.cons (.arr 4 (.int .u64)) (.cons (.int .u64) (.cons (.arr 4 (.int .u64)) (.cons (.int .u64) (.cons (.int .u64) (.cons (.int .u64) (.cons (.int .u64) .nil)))))))))))) (.pl (.cons (.int .u64) (.cons (.int .u64) (.cons (.int .u64) (.cons (.arr 4 (.int .u64)) (.cons (.int .u64) (.cons (.arr 4 (.int .u64)) (.cons (.int .u64) (.cons (.arr 4 (.int .u64)) (.cons (.int .u64) (.cons (.int .u64) (.cons (.int .u64) (.cons (.int .u64) .nil))))))))))))), .box (.cons .bool (.cons (.arr 4 (.int .u64)) .nil)) (.pl (.cons .bool (.cons (.arr 4 (.int .u64)) .nil)))]⟩) | _, _ => none
theorem ev13 : ∀ x, evalFn env13 ann13 13 ⟨[.pl (.cons .bool (.cons (.arr 4 (.int .u64)) .nil)), .pl (.cons .bool (.cons (.arr 4 (.int .u64)) .nil)), .pl (.int .u64), .pl (.cons (.int .u64) (.cons (.int .u64) (.cons (.int .u64) (.cons (.arr 4 (.int .u64)) (.cons (.int .u64) (.cons (.arr 4 (.int .u64)) (.cons (.int .u64) (.cons (.arr 4 (.int .u64)) (.cons (.int .u64) (.cons (.int .u64) (.cons (.int .u64) (.cons (.int .u64) .nil))))))))))))], []⟩ ⟨[.pl (.cons .bool (.cons (.arr 4 (.int .u64)) .nil)), .pl (.int .i64)], []⟩ 60 K0 x = l1price_Delta x := by intro x; kernel_rfl
theorem ok13 : ConOk Try.prog 13 l1price_DeltaC := con_of_ev (E := env13) (envOk tysOk eqsOk (show HowsOk Try.prog [(20, .con int256_ValidC), (25, .con int256_NegC), (26, .con int256_SubC), (27, .con int256_DivFloorC), (39, .con uint256_SaturatingAddC), (44, .con params_ValidC), (45, .con uint256_FromUint64C), (46, .con int256_MulC)] from (And.intro ok20 (And.intro ok25 (And.intro ok26 (And.intro ok27 (And.intro ok39 (And.intro ok44 (And.intro ok45 (And.intro ok46 trivial))))))))) follows) noOddP fun x _ h => ⟨ann13, 60, K0, (ev13 x).trans h⟩
/-- pontage/pontageref12.in -/
noncomputable def pontageref12_inC : Con := ⟨_, _, pontageref12_in⟩
noncomputable def env100 : Env := mkEnv Try.prog tys eqs []
def ann100 : Anns := fun _ _ => none
theorem ev100 : ∀ x, evalFn env100 ann100 100 ⟨[.pl (.int .u64), .pl (.int .u64), .pl (.int .u64)], []⟩ ⟨[.pl .bool], []⟩ 60 K0 x = pontageref12_in x := by intro x; kernel_rfl
theorem ok100 : ConOk Try.prog 100 pontageref12_inC := con_of_ev (E := env100) (envOk tysOk eqsOk (show HowsOk Try.prog [] from trivial) follows) noOddP fun x _ h => ⟨ann100, 60, K0, (ev100 x).trans h⟩
/-- pontage/pontageref1.Uint64 -/
noncomputable def pontageref1_Uint64C : Con := ⟨_, _, pontageref1_Uint64⟩
noncomputable def env108 : Env := mkEnv Try.prog tys eqs []
def ann108 : Anns := fun _ _ => none
theorem ev108 : ∀ x, evalFn env108 ann108 108 ⟨[.pl (.arr 4 (.int .u64))], []⟩ ⟨[.pl (.int .u64), .pl .bool], []⟩ 60 K0 x = pontageref1_Uint64 x := by intro x; kernel_rfl
theorem ok108 : ConOk Try.prog 108 pontageref1_Uint64C := con_of_ev (E := env108) (envOk tysOk eqsOk (show HowsOk Try.prog [] from trivial) follows) noOddP fun x _ h => ⟨ann108, 60, K0, (ev108 x).trans h⟩
/-- pontage/pontageref12.atLeast -/
noncomputable def pontageref12_atLeastC : Con := ⟨_, _, pontageref12_atLeast⟩
noncomputable def env101 : Env := mkEnv Try.prog tys eqs [(108, .con pontageref1_Uint64C)]
def ann101 : Anns := fun _ _ => none
theorem ev101 : ∀ x, evalFn env101 ann101 101 ⟨[.pl (.arr 4 (.int .u64)), .pl (.int .u64)], []⟩ ⟨[.pl .bool], []⟩ 60 K0 x = pontageref12_atLeast x := by intro x; kernel_rfl
theorem ok101 : ConOk Try.prog 101 pontageref12_atLeastC := con_of_ev (E := env101) (envOk tysOk eqsOk (show HowsOk Try.prog [(108, .con pontageref1_Uint64C)] from (And.intro ok108 trivial)) follows) noOddP fun x _ h => ⟨ann101, 60, K0, (ev101 x).trans h⟩
/-- pontage/pontageref12.FirstInvalid -/
noncomputable def pontageref12_FirstInvalidC : Con := ⟨_, _, pontageref12_FirstInvalid⟩
noncomputable def env84 : Env := mkEnv Try.prog tys eqs [(100, .con pontageref12_inC), (101, .con pontageref12_atLeastC)]
def ann84 : Anns := fun p _ => match p with | 1000000 :: _ => none | _ => some (.unroll 14)
theorem ev84 : ∀ x, evalFn env84 ann84 84 ⟨[.pl (.cons (.int .u64) (.cons (.int .u64) (.cons (.int .u64) (.cons (.arr 4 (.int .u64)) (.cons (.int .u64) (.cons (.arr 4 (.int .u64)) (.cons (.int .u64) (.cons (.arr 4 (.int .u64)) (.cons (.int .u64) (.cons (.int .u64) (.cons (.int .u64) (.cons (.int .u64) .nil))))))))))))], []⟩ ⟨[.pl (.int .i64)], []⟩ 90 K0 x = pontageref12_FirstInvalid x := by intro x; kernel_rfl
theorem ok84 : ConOk Try.prog 84 pontageref12_FirstInvalidC := con_of_ev (E := env84) (envOk tysOk eqsOk (show HowsOk Try.prog [(100, .con pontageref12_inC), (101, .con pontageref12_atLeastC)] from (And.intro ok100 (And.intro ok101 trivial))) follows) noOddP fun x _ h => ⟨ann84, 90, K0, (ev84 x).trans h⟩
/-- pontage/pontageref12.Valid -/
noncomputable def pontageref12_ValidC : Con := ⟨_, _, pontageref12_Valid⟩
noncomputable def env47 : Env := mkEnv Try.prog tys eqs [(84, .con pontageref12_FirstInvalidC)]
def ann47 : Anns := fun _ _ => none
theorem ev47 : ∀ x, evalFn env47 ann47 47 ⟨[.pl (.cons (.int .u64) (.cons (.int .u64) (.cons (.int .u64) (.cons (.arr 4 (.int .u64)) (.cons (.int .u64) (.cons (.arr 4 (.int .u64)) (.cons (.int .u64) (.cons (.arr 4 (.int .u64)) (.cons (.int .u64) (.cons (.int .u64) (.cons (.int .u64) (.cons (.int .u64) .nil))))))))))))], []⟩ ⟨[.pl .bool], []⟩ 60 K0 x = pontageref12_Valid x := by intro x; kernel_rfl
theorem ok47 : ConOk Try.prog 47 pontageref12_ValidC := con_of_ev (E := env47) (envOk tysOk eqsOk (show HowsOk Try.prog [(84, .con pontageref12_FirstInvalidC)] from (And.intro ok84 trivial)) follows) noOddP fun x _ h => ⟨ann47, 60, K0, (ev47 x).trans h⟩
/-- pontage/pontageref1.IsZero -/
noncomputable def pontageref1_IsZeroC : Con := ⟨_, _, pontageref1_IsZero⟩
noncomputable def env85 : Env := mkEnv Try.prog tys eqs []
def ann85 : Anns := fun _ _ => none
theorem ev85 : ∀ x, evalFn env85 ann85 85 ⟨[.pl (.arr 4 (.int .u64))], []⟩ ⟨[.pl .bool], []⟩ 60 K0 x = pontageref1_IsZero x := by intro x; kernel_rfl
theorem ok85 : ConOk Try.prog 85 pontageref1_IsZeroC := con_of_ev (E := env85) (envOk tysOk eqsOk (show HowsOk Try.prog [] from trivial) follows) noOddP fun x _ h => ⟨ann85, 60, K0, (ev85 x).trans h⟩
/-- pontage/pontageref3.Valid -/
noncomputable def pontageref3_ValidC : Con := ⟨_, _, pontageref3_Valid⟩
noncomputable def env48 : Env := mkEnv Try.prog tys eqs [(85, .con pontageref1_IsZeroC)]
def ann48 : Anns := fun _ _ => none
theorem ev48 : ∀ x, evalFn env48 ann48 48 ⟨[.pl (.cons .bool (.cons (.arr 4 (.int .u64)) .nil))], []⟩ ⟨[.pl .bool], []⟩ 60 K0 x = pontageref3_Valid x := by intro x; kernel_rfl
theorem ok48 : ConOk Try.prog 48 pontageref3_ValidC := con_of_ev (E := env48) (envOk tysOk eqsOk (show HowsOk Try.prog [(85, .con pontageref1_IsZeroC)] from (And.intro ok85 trivial)) follows) noOddP fun x _ h => ⟨ann48, 60, K0, (ev48 x).trans h⟩
/-- pontage/pontageref1.norm -/
noncomputable def pontageref1_normC : Con := ⟨_, _, pontageref1_norm⟩
noncomputable def env88 : Env := mkEnv Try.prog tys eqs []
def ann88 : Anns := fun p c => match p, c with | [88], 0 => some (.tmpl ⟨[.pl (.sl (.int .i64)), .dead, .dead, .pl (.int .i64), .dead, .dead, .dead, .dead, .dead, .dead, .dead, .dead, .dead, .dead, .dead, .dead, .dead, .dead, .dead, .dead, .dead], []⟩) | _, _ => none
theorem ev88 : ∀ x, evalFn env88 ann88 88 ⟨[.pl (.sl (.int .i64))], []⟩ ⟨[.pl (.sl (.int .i64))], []⟩ 60 K0 x = pontageref1_norm x := by intro x; kernel_rfl
theorem ok88 : ConOk Try.prog 88 pontageref1_normC := con_of_ev (E := env88) (envOk tysOk eqsOk (show HowsOk Try.prog [] from trivial) follows) noOddP fun x _ h => ⟨ann88, 60, K0, (ev88 x).trans h⟩
/-- pontage/pontageref1.FromUint256 -/
noncomputable def pontageref1_FromUint256C : Con := ⟨_, _, pontageref1_FromUint256⟩
noncomputable def env63 : Env := mkEnv Try.prog tys eqs [(88, .con pontageref1_normC)]
def ann63 : Anns := fun p c => match p, c with | [63], 0 => some (.tmpl ⟨[.dead, .ptr 0 [], .dead, .whole 1, .pl (.int .i64), .dead, .dead, .dead, .dead, .dead, .dead, .dead, .dead, .dead, .dead, .dead, .dead, .dead, .dead, .dead, .dead, .dead, .dead, .dead, .dead, .dead], [.box (.arr 4 (.int .u64)) (.pl (.arr 4 (.int .u64))), .row (.int .i64)]⟩) | _, _ => none
theorem ev63 : ∀ x, evalFn env63 ann63 63 ⟨[.pl (.arr 4 (.int .u64))], []⟩ ⟨[.pl (.sl (.int .i64))], []⟩ 60 K0 x = pontageref1_FromUint256 x := by intro x; kernel_rfl
theorem ok63 : ConOk Try.prog 63 pontageref1_FromUint256C := con_of_ev (E := env63) (envOk tysOk eqsOk (show HowsOk Try.prog [(88, .con pontageref1_normC)] from (And.intro ok88 trivial)) follows) noOddP fun x _ h => ⟨ann63, 60, K0, (ev63 x).trans h⟩
/-- pontage/pontageref1.FromUint64 -/
noncomputable def pontageref1_FromUint64C : Con := ⟨_, _, pontageref1_FromUint64⟩
noncomputable def env52 : Env := mkEnv Try.prog tys eqs [(63, .con pontageref1_FromUint256C)]
def ann52 : Anns := fun _ _ => none
theorem ev52 : ∀ x, evalFn env52 ann52 52 ⟨[.pl (.int .u64)], []⟩ ⟨[.pl (.sl (.int .i64))], []⟩ 60 K0 x = pontageref1_FromUint64 x := by intro x; kernel_rfl
theorem ok52 : ConOk Try.prog 52 pontageref1_FromUint64C := con_of_ev (E := env52) (envOk tysOk eqsOk (show HowsOk Try.prog [(63, .con pontageref1_FromUint256C)] from (And.intro ok63 trivial)) follows) noOddP fun x _ h => ⟨ann52, 60, K0, (ev52 x).trans h⟩
/-- pontage/pontageref1.Sub -/
noncomputable def pontageref1_SubC : Con := ⟨_, _, pontageref1_Sub⟩
noncomputable def env75 : Env := mkEnv Try.prog tys eqs [(88, .inl)]
def ann75 : Anns := fun p c => match p, c with | [1000000, 75], 10 => some (.join ⟨[.pl (.sl (.int .i64)), .pl (.sl (.int .i64)), .dead, .dead, .dead, .whole 0, .dead, .pl (.int .i64), .pl (.int .i64), .dead, .dead, .dead, .dead, .dead, .dead, .dead, .dead, .dead, .dead, .dead, .dead, .dead, .dead, .dead, .dead, .dead, .dead, .dead, .dead, .dead, .dead, .dead, .dead, .dead, .dead, .dead, .dead, .dead, .dead, .dead, .dead, .dead, .dead, .dead], [.row (.int .i64)]⟩) | [75], 0 => some (.tmpl ⟨[.pl (.sl (.int .i64)), .pl (.sl (.int .i64)), .dead, .dead, .dead, .whole 0, .pl (.int .i64), .pl (.int .i64), .dead, .dead, .dead, .dead, .dead, .dead, .dead, .dead, .dead, .dead, .dead, .dead, .dead, .dead, .dead, .dead, .dead, .dead, .dead, .dead, .dead, .dead, .dead, .dead, .dead, .dead, .dead, .dead, .dead, .dead, .dead, .dead, .dead, .dead, .dead, .dead], [.row (.int .i64)]⟩) | [88, 14, 1, 75], 0 => some (.tmpl ⟨[.whole 0, .dead, .dead, .pl (.int .i64), .dead, .dead, .dead, .dead, .dead, .dead, .dead, .dead, .dead, .dead, .dead, .dead, .dead, .dead, .dead, .dead, .dead, .dead, .dead, .dead, .dead, .dead, .dead, .dead, .dead, .dead, .dead, .dead, .dead, .dead, .dead, .dead, .dead, .dead, .dead, .dead, .dead, .dead, .dead, .dead, .dead, .dead, .dead, .dead, .dead, .dead, .dead, .dead, .dead, .dead, .dead, .dead, .dead, .dead, .dead, .dead, .dead, .dead, .dead, .dead, .dead], [.row (.int .i64)]⟩) | _, _ => none
theorem ev75 : ∀ x, evalFresh env75 ann75 75 ⟨[.pl (.sl (.int .i64)), .pl (.sl (.int .i64))], []⟩ ⟨[.pl (.sl (.int .i64))], []⟩ 80 K0 x = pontageref1_Sub x := by intro x; kernel_rfl
theorem okf75 : ConFresh Try.prog 75 pontageref1_SubC := fresh_of_ev (E := env75) (envOk tysOk eqsOk (show HowsOk Try.prog [(88, .inl)] from trivial) follows) noOddP fun x _ h => ⟨ann75, 80, K0, (ev75 x).trans h⟩
theorem ok75 : ConOk Try.prog 75 pontageref1_SubC := okf75.con
/-- pontage/pontageref1.Cmp -/
noncomputable def pontageref1_CmpC : Con := ⟨_, _, pontageref1_Cmp⟩
noncomputable def env86 : Env := mkEnv Try.prog tys eqs []
def ann86 : Anns := fun p c => match p, c with | [86], 0 => some (.tmpl ⟨[.pl (.sl (.int .i64)), .pl (.sl (.int .i64)), .dead, .dead, .dead, .pl (.int .i64), .dead, .dead, .dead, .dead, .dead, .dead, .dead, .dead, .dead, .dead, .dead, .dead, .dead, .dead, .dead, .dead, .dead, .dead, .dead, .dead, .dead, .dead, .dead, .dead, .dead, .dead, .dead, .dead, .dead, .dead, .dead, .dead, .dead, .dead, .dead], []⟩) | _, _ => none
theorem ev86 : ∀ x, evalFn env86 ann86 86 ⟨[.pl (.sl (.int .i64)), .pl (.sl (.int .i64))], []⟩ ⟨[.pl (.int .i64)], []⟩ 60 K0 x = pontageref1_Cmp x := by intro x; kernel_rfl
theorem ok86 : ConOk Try.prog 86 pontageref1_CmpC := con_of_ev (E := env86) (envOk tysOk eqsOk (show HowsOk Try.prog [] from trivial) follows) noOddP fun x _ h => ⟨ann86, 60, K0, (ev86 x).trans h⟩
/-- pontage/pontageref1.short -/
noncomputable def pontageref1_shortC : Con := ⟨_, _, pontageref1_short⟩
noncomputable def env87 : Env := mkEnv Try.prog tys eqs [(88, .con pontageref1_normC)]
def ann87 : Anns := fun p c => match p, c with | [87], 0 => some (.tmpl ⟨[.pl (.sl (.int .i64)), .pl (.int .i64), .dead, .dead, .dead, .dead, .whole 0, .pl (.int .i64), .pl (.int .i64), .dead, .dead, .dead, .dead, .dead, .dead, .dead, .dead, .dead, .dead, .dead, .dead, .dead, .dead, .dead, .dead, .dead, .dead, .dead, .dead, .dead, .dead, .dead, .dead, .dead, .dead, .dead, .dead, .dead, .dead, .dead, .dead], [.row (.int .i64)]⟩) | _, _ => none
theorem ev87 : ∀ x, evalFn env87 ann87 87 ⟨[.pl (.sl (.int .i64)), .pl (.int .i64)], []⟩ ⟨[.pl (.sl (.int .i64)), .pl (.sl (.int .i64))], []⟩ 60 K0 x = pontageref1_short x := by intro x; kernel_rfl
theorem ok87 : ConOk Try.prog 87 pontageref1_shortC := con_of_ev (E := env87) (envOk tysOk eqsOk (show HowsOk Try.prog [(88, .con pontageref1_normC)] from (And.intro ok88 trivial)) follows) noOddP fun x _ h => ⟨ann87, 60, K0, (ev87 x).trans h⟩
/-- pontage/pontageref1.Div -/
noncomputable def pontageref1_DivC : Con := ⟨_, _, pontageref1_Div⟩
noncomputable def env56 : Env := mkEnv Try.prog tys eqs [(75, .fresh pontageref1_SubC), (86, .con pontageref1_CmpC), (87, .con pontageref1_shortC), (88, .inl)]
def ann56 : Anns := fun p c => match p, c with | [56], 0 => some (.tmpl ⟨[.pl (.sl (.int .i64)), .pl (.sl (.int .i64)), .dead, .dead, .dead, .dead, .whole 0, .whole 1, .pl (.int .i64), .dead, .dead, .dead, .dead, .dead, .dead, .dead, .dead, .dead, .dead, .dead, .dead, .dead, .dead, .dead, .dead, .dead, .dead, .dead, .dead, .dead, .dead, .dead, .dead, .dead, .dead, .dead, .dead, .dead, .dead, .dead, .dead, .dead, .dead, .dead, .dead, .dead, .dead, .dead, .dead, .dead, .dead, .dead, .dead, .dead, .dead, .dead, .dead, .dead, .dead, .dead, .dead, .dead, .dead, .dead, .dead, .dead, .dead, .dead, .dead, .dead, .dead, .dead, .dead, .dead, .dead, .dead, .dead, .dead, .dead, .dead, .dead, .dead, .dead, .dead, .dead, .dead, .dead, .dead, .dead, .dead, .dead, .dead, .dead, .dead, .dead, .dead, .dead, .dead, .dead, .dead, .dead, .dead, .dead, .dead, .dead, .dead, .dead, .dead, .dead, .dead, .dead, .dead, .dead, .dead], [.row (.int .i64), .row (.int .i64)]⟩) | [56], 2 => some (.tmpl ⟨[.pl (.sl (.int .i64)), .pl (.sl (.int .i64)), .dead, .dead, .dead, .dead, .whole 0, .whole 1, .pl (.int .i64), .pl (.int .i64), .dead, .dead, .dead, .dead, .dead, .dead, .dead, .dead, .dead, .dead, .dead, .dead, .dead, .dead, .dead, .dead, .dead, .dead, .dead, .dead, .dead, .dead, .dead, .dead, .dead, .dead, .dead, .dead, .dead, .dead, .dead, .dead, .dead, .dead, .dead, .dead, .dead, .dead, .dead, .dead, .dead, .dead, .dead, .dead, .dead, .dead, .dead, .dead, .dead, .dead, .dead, .dead, .dead, .dead, .dead, .dead, .dead, .dead, .dead, .dead, .dead, .dead, .dead, .dead, .dead, .dead, .dead, .dead, .dead, .dead, .dead, .dead, .dead, .dead, .dead, .dead, .dead, .dead, .dead, .dead, .dead, .dead, .dead, .dead, .dead, .dead, .dead, .dead, .dead, .dead, .dead, .dead, .dead, .dead, .dead, .dead, .dead, .dead, .dead, .dead, .dead, .dead, .dead, .dead], [.row (.int .i64), .row (.int .i64)]⟩) | [56], 4 => some (.tmpl ⟨[.pl (.sl (.int .i64)), .pl (.sl (.int .i64)), .dead, .dead, .dead, .dead, .whole 0, .whole 1, .pl (.int .i64), .pl (.int .i64), .pl (.int .i64), .pl (.int .i64), .dead, .dead, .dead, .dead, .dead, .dead, .dead, .dead, .dead, .dead, .dead, .dead, .dead, .dead, .dead, .dead, .dead, .dead, .dead, .dead, .dead, .dead, .dead, .dead, .dead, .dead, .dead, .dead, .dead, .dead, .dead, .dead, .dead, .dead, .dead, .dead, .dead, .dead, .dead, .dead, .dead, .dead, .dead, .dead, .dead, .dead, .dead, .dead, .dead, .dead, .dead, .dead, .dead, .dead, .dead, .dead, .dead, .dead, .dead, .dead, .dead, .dead, .dead, .dead, .dead, .dead, .dead, .dead, .dead, .dead, .dead, .dead, .dead, .dead, .dead, .dead, .dead, .dead, .dead, .dead, .dead, .dead, .dead, .dead, .dead, .dead, .dead, .dead, .dead, .dead, .dead, .dead, .dead, .dead, .dead, .dead, .dead, .dead, .dead, .dead, .dead, .dead], [.row (.int .i64), .row (.int .i64)]⟩) | [56], 6 => some (.tmpl ⟨[.pl (.sl (.int .i64)), .pl (.sl (.int .i64)), .dead, .dead, .dead, .dead, .whole 0, .whole 1, .pl (.int .i64), .pl (.int .i64), .dead, .dead, .pl (.sl (.int .i64)), .pl (.int .i64), .dead, .dead, .dead, .dead, .dead, .dead, .dead, .dead, .dead, .dead, .dead, .dead, .dead, .dead, .dead, .dead, .dead, .dead, .dead, .dead, .dead, .dead, .dead, .dead, .dead, .dead, .dead, .dead, .dead, .dead, .dead, .dead, .dead, .dead, .dead, .dead, .dead, .dead, .dead, .dead, .dead, .dead, .dead, .dead, .dead, .dead, .dead, .dead, .dead, .dead, .dead, .dead, .dead, .dead, .dead, .dead, .dead, .dead, .dead, .dead, .dead, .dead, .dead, .dead, .dead, .dead, .dead, .dead, .dead, .dead, .dead, .dead, .dead, .dead, .dead, .dead, .dead, .dead, .dead, .dead, .dead, .dead, .dead, .dead, .dead, .dead, .dead, .dead, .dead, .dead, .dead, .dead, .dead, .dead, .dead, .dead, .dead, .dead, .dead, .dead], [.row (.int .i64), .row (.int .i64)]⟩) | [88, 18, 1, 56], 0 => some (.tmpl ⟨[.whole 0, .dead, .dead, .pl (.int .i64), .dead, .dead, .dead, .dead, .dead, .dead, .dead, .dead, .dead, .dead, .dead, .dead, .dead, .dead, .dead, .dead, .dead, .pl (.sl (.int .i64)), .pl (.sl (.int .i64)), .dead, .dead, .dead, .dead, .whole 1, .whole 0, .pl (.int .i64), .pl (.int .i64), .dead, .dead, .dead, .dead, .dead, .dead, .dead, .dead, .dead, .dead, .dead, .dead, .dead, .dead, .dead, .dead, .dead, .dead, .dead, .dead, .dead, .dead, .dead, .dead, .dead, .dead, .dead, .dead, .dead, .dead, .dead, .dead, .dead, .dead, .dead, .dead, .dead, .dead, .dead, .dead, .dead, .dead, .dead, .dead, .dead, .dead, .dead, .dead, .dead, .dead, .dead, .dead, .dead, .dead, .dead, .dead, .dead, .dead, .dead, .dead, .dead, .dead, .dead, .dead, .dead, .dead, .dead, .dead, .dead, .dead, .dead, .dead, .dead, .dead, .dead, .dead, .dead, .dead, .dead, .dead, .dead, .dead, .dead, .dead, .dead, .dead, .dead, .dead, .dead, .dead, .dead, .dead, .dead, .dead, .dead, .dead, .dead, .dead, .dead, .dead, .dead, .dead, .dead, .dead], [.row (.int .i64), .row (.int .i64)]⟩) | [88, 19, 1, 56], 0 => some (.tmpl ⟨[.whole 0, .dead, .dead, .pl (.int .i64), .dead, .dead, .dead, .dead, .dead, .dead, .dead, .dead, .dead, .dead, .dead, .dead, .dead, .dead, .dead, .dead, .dead, .pl (.sl (.int .i64)), .pl (.sl (.int .i64)), .dead, .dead, .dead, .dead, .whole 1, .whole 0, .pl (.int .i64), .pl (.int .i64), .dead, .dead, .dead, .dead, .dead, .dead, .dead, .dead, .dead, .dead, .dead, .dead, .dead, .dead, .dead, .dead, .dead, .dead, .dead, .dead, .dead, .dead, .dead, .dead, .dead, .dead, .dead, .dead, .dead, .dead, .dead, .dead, .dead, .dead, .dead, .dead, .dead, .dead, .dead, .dead, .dead, .dead, .dead, .dead, .dead, .dead, .dead, .dead, .dead, .dead, .dead, .dead, .dead, .dead, .dead, .dead, .dead, .dead, .dead, .dead, .dead, .dead, .dead, .dead, .dead, .dead, .dead, .dead, .dead, .dead, .dead, .dead, .dead, .dead, .dead, .dead, .dead, .dead, .dead, .dead, .dead, .dead, .dead, .dead, .dead, .dead, .dead, .dead, .dead, .dead, .dead, .dead, .dead, .dead, .dead, .dead, .dead, .dead, .dead, .dead, .dead, .dead, .dead, .dead], [.row (.int .i64), .row (.int .i64)]⟩) | [88, 27, 1, 56], 0 => some (.tmpl ⟨[.whole 0, .dead, .dead, .pl (.int .i64), .dead, .dead, .dead, .dead, .dead, .dead, .dead, .dead, .dead, .dead, .dead, .dead, .dead, .dead, .dead, .dead, .dead, .dead, .dead, .dead, .dead, .dead, .dead, .dead, .whole 1, .dead, .dead, .dead, .dead, .dead, .dead, .dead, .dead, .dead, .dead, .dead, .dead, .dead, .dead, .dead, .dead, .dead, .dead, .dead, .dead, .dead, .dead, .dead, .dead, .dead, .dead, .dead, .dead, .dead, .dead, .dead, .dead, .dead, .dead, .dead, .dead, .dead, .dead, .dead, .dead, .dead, .dead, .dead, .dead, .dead, .dead, .dead, .dead, .dead, .dead, .dead, .dead, .dead, .dead, .dead, .dead, .dead, .dead, .dead, .dead, .dead, .dead, .dead, .dead, .dead, .dead, .dead, .dead, .dead, .dead, .dead, .dead, .dead, .dead, .dead, .dead, .dead, .dead, .dead, .dead, .dead, .dead, .dead, .dead, .dead, .dead, .dead, .dead, .dead, .dead, .dead, .dead, .dead, .dead, .dead, .dead, .dead, .dead, .dead, .dead, .dead, .dead, .dead, .dead, .dead, .dead], [.row (.int .i64), .row (.int .i64)]⟩) | [88, 27, 3, 56], 0 => some (.tmpl ⟨[.whole 0, .dead, .dead, .pl (.int .i64), .dead, .dead, .dead, .dead, .dead, .dead, .dead, .dead, .dead, .dead, .dead, .dead, .dead, .dead, .dead, .dead, .dead, .dead, .dead, .dead, .dead, .dead, .dead, .dead, .dead, .dead, .dead, .dead, .dead, .dead, .dead, .dead, .dead, .dead, .dead, .dead, .dead, .dead, .dead, .dead, .dead, .dead, .dead, .dead, .dead, .dead, .dead, .dead, .dead, .dead, .dead, .dead, .dead, .dead, .dead, .dead, .dead, .dead, .dead, .dead, .dead, .dead, .dead, .dead, .dead, .dead, .dead, .dead, .dead, .dead, .dead, .dead, .dead, .dead, .dead, .dead, .dead, .dead, .dead, .dead, .dead, .dead, .dead, .dead, .dead, .dead, .dead, .dead, .dead, .dead, .dead, .dead, .dead, .dead, .dead, .dead, .dead, .dead, .dead, .dead, .dead, .dead, .dead, .dead, .dead, .dead, .dead, .dead, .dead, .dead, .dead, .dead, .dead, .dead, .dead, .dead, .dead, .dead, .dead, .dead, .dead, .dead, .dead, .dead, .dead, .dead, .dead, .dead, .pl (.sl (.int .i64)), .dead, .dead], [.row (.int .i64)]⟩) | _, _ => none
theorem ev56 : ∀ x, evalFn env56 ann56 56 ⟨[.pl (.sl (.int .i64)), .pl (.sl (.int .i64))], []⟩ ⟨[.pl (.sl (.int .i64)), .pl (.sl (.int .i64))], []⟩ 90 K0 x = pontageref1_Div x := by intro x; kernel_rfl
theorem ok56 : ConOk Try.prog 56 pontageref1_DivC := con_of_ev (E := env56) (envOk tysOk eqsOk (show HowsOk Try.prog [(75, .fresh pontageref1_SubC), (86, .con pontageref1_CmpC), (87, .con pontageref1_shortC), (88, .inl)] from (And.intro okf75 (And.intro ok86 (And.intro ok87 trivial)))) follows) noOddP fun x _ h => ⟨ann56, 90, K0, (ev56 x).trans h⟩
/-- pontage/pontageref1.Add -/
noncomputable def pontageref1_AddC : Con := ⟨_, _, pontageref1_Add⟩
noncomputable def env58 : Env := mkEnv Try.prog tys eqs []
def ann58 : Anns := fun p c => match p, c with | [1000000, 58], 7 => some (.join ⟨[.pl (.sl (.int .i64)), .pl (.sl (.int .i64)), .dead, .dead, .dead, .whole 0, .pl (.int .i64), .pl (.int .i64), .dead, .dead, .dead, .dead, .dead, .dead, .dead, .dead, .dead, .dead, .dead, .dead, .dead, .dead, .dead, .dead, .dead, .dead, .dead, .dead, .dead, .dead, .dead, .dead, .dead, .dead, .dead, .dead, .dead, .dead, .dead, .dead, .dead, .dead, .dead, .dead, .dead, .dead, .dead, .dead, .dead, .dead, .dead, .dead], [.row (.int .i64)]⟩) | [1000000, 58], 9 => some (.join ⟨[.pl (.sl (.int .i64)), .pl (.sl (.int .i64)), .dead, .dead, .dead, .whole 0, .pl (.int .i64), .pl (.int .i64), .dead, .dead, .dead, .dead, .dead, .dead, .dead, .dead, .dead, .dead, .dead, .dead, .dead, .dead, .dead, .dead, .dead, .dead, .dead, .dead, .dead, .dead, .dead, .dead, .dead, .dead, .dead, .dead, .dead, .dead, .dead, .dead, .dead, .dead, .dead, .dead, .dead, .dead, .dead, .dead, .dead, .dead, .dead, .dead], [.row (.int .i64)]⟩) | [58], 0 => some (.tmpl ⟨[.pl (.sl (.int .i64)), .pl (.sl (.int .i64)), .dead, .dead, .dead, .whole 0, .pl (.int .i64), .pl (.int .i64), .dead, .dead, .dead, .dead, .dead, .dead, .dead, .dead, .dead, .dead, .dead, .dead, .dead, .dead, .dead, .dead, .dead, .dead, .dead, .dead, .dead, .dead, .dead, .dead, .dead, .dead, .dead, .dead, .dead, .dead, .dead, .dead, .dead, .dead, .dead, .dead, .dead, .dead, .dead, .dead, .dead, .dead, .dead, .dead], [.row (.int .i64)]⟩) | _, _ => none
theorem ev58 : ∀ x, evalFn env58 ann58 58 ⟨[.pl (.sl (.int .i64)), .pl (.sl (.int .i64))], []⟩ ⟨[.pl (.sl (.int .i64))], []⟩ 60 K0 x = pontageref1_Add x := by intro x; kernel_rfl
theorem ok58 : ConOk Try.prog 58 pontageref1_AddC := con_of_ev (E := env58) (envOk tysOk eqsOk (show HowsOk Try.prog [] from trivial) follows) noOddP fun x _ h => ⟨ann58, 60, K0, (ev58 x).trans h⟩
/-- pontage/pontageref3.sign -/
noncomputable def pontageref3_signC : Con := ⟨_, _, pontageref3_sign⟩
noncomputable def env62 : Env := mkEnv Try.prog tys eqs []
def ann62 : Anns := fun _ _ => none
theorem ev62 : ∀ x, evalFn env62 ann62 62 ⟨[.pl .bool, .pl (.sl (.int .i64))], []⟩ ⟨[.pl (.cons .bool (.cons (.sl (.int .i64)) .nil))], []⟩ 60 K0 x = pontageref3_sign x := by intro x; kernel_rfl
theorem ok62 : ConOk Try.prog 62 pontageref3_signC := con_of_ev (E := env62) (envOk tysOk eqsOk (show HowsOk Try.prog [] from trivial) follows) noOddP fun x _ h => ⟨ann62, 60, K0, (ev62 x).trans h⟩
/-- pontage/pontageref3.DivFloor -/
noncomputable def pontageref3_DivFloorC : Con := ⟨_, _, pontageref3_DivFloor⟩
noncomputable def env49 : Env := mkEnv Try.prog tys eqs [(52, .con pontageref1_FromUint64C), (56, .con pontageref1_DivC), (58, .con pontageref1_AddC), (62, .con pontageref3_signC)]
def ann49 : Anns := fun p c => match p, c with | [1000000, 49], 4 => some (.join ⟨[.dead, .dead, .ptr 0 [], .dead, .ptr 1 [], .pl (.sl (.int .i64)), .dead, .dead, .dead, .dead, .dead, .dead, .dead, .dead, .dead, .dead, .dead, .dead, .dead, .dead, .pl .bool, .dead, .dead, .dead, .dead, .dead, .dead, .dead], [.box (.cons .bool (.cons (.sl (.int .i64)) .nil)) (.pl (.cons .bool (.cons (.sl (.int .i64)) .nil))), .box (.cons .bool (.cons (.sl (.int .i64)) .nil)) (.pl (.cons .bool (.cons (.sl (.int .i64)) .nil)))]⟩) | _, _ => none
theorem ev49 : ∀ x, evalFn env49 ann49 49 ⟨[.pl (.cons .bool (.cons (.sl (.int .i64)) .nil)), .pl (.sl (.int .i64))], []⟩ ⟨[.pl (.cons .bool (.cons (.sl (.int .i64)) .nil))], []⟩ 60 K0 x = pontageref3_DivFloor x := by intro x; kernel_rfl
theorem ok49 : ConOk Try.prog 49 pontageref3_DivFloorC := con_of_ev (E := env49) (envOk tysOk eqsOk (show HowsOk Try.prog [(52, .con pontageref1_FromUint64C), (56, .con pontageref1_DivC), (58, .con pontageref1_AddC), (62, .con pontageref3_signC)] from (And.intro ok52 (And.intro ok56 (And.intro ok58 (And.intro ok62 trivial))))) follows) noOddP fun x _ h => ⟨ann49, 60, K0, (ev49 x).trans h⟩
/-- pontage/pontageref3.Negate -/
noncomputable def pontageref3_NegateC : Con := ⟨_, _, pontageref3_Negate⟩
noncomputable def env50 : Env := mkEnv Try.prog tys eqs [(62, .con pontageref3_signC)]
def ann50 : Anns := fun _ _ => none
theorem ev50 : ∀ x, evalFn env50 ann50 50 ⟨[.pl (.cons .bool (.cons (.sl (.int .i64)) .nil))], []⟩ ⟨[.pl (.cons .bool (.cons (.sl (.int .i64)) .nil))], []⟩ 60 K0 x = pontageref3_Negate x := by intro x; kernel_rfl
theorem ok50 : ConOk Try.prog 50 pontageref3_NegateC := con_of_ev (E := env50) (envOk tysOk eqsOk (show HowsOk Try.prog [(62, .con pontageref3_signC)] from (And.intro ok62 trivial)) follows) noOddP fun x _ h => ⟨ann50, 60, K0, (ev50 x).trans h⟩
/-- pontage/pontageref3.FromInt256 -/
noncomputable def pontageref3_FromInt256C : Con := ⟨_, _, pontageref3_FromInt256⟩
noncomputable def env51 : Env := mkEnv Try.prog tys eqs [(62, .con pontageref3_signC), (63, .con pontageref1_FromUint256C)]
def ann51 : Anns := fun _ _ => none
theorem ev51 : ∀ x, evalFn env51 ann51 51 ⟨[.pl (.cons .bool (.cons (.arr 4 (.int .u64)) .nil))], []⟩ ⟨[.pl (.cons .bool (.cons (.sl (.int .i64)) .nil))], []⟩ 60 K0 x = pontageref3_FromInt256 x := by intro x; kernel_rfl
theorem ok51 : ConOk Try.prog 51 pontageref3_FromInt256C := con_of_ev (E := env51) (envOk tysOk eqsOk (show HowsOk Try.prog [(62, .con pontageref3_signC), (63, .con pontageref1_FromUint256C)] from (And.intro ok62 (And.intro ok63 trivial))) follows) noOddP fun x _ h => ⟨ann51, 60, K0, (ev51 x).trans h⟩
/-- pontage/pontageref3.Add -/
noncomputable def pontageref3_AddC : Con := ⟨_, _, pontageref3_Add⟩
noncomputable def env53 : Env := mkEnv Try.prog tys eqs [(58, .con pontageref1_AddC), (62, .con pontageref3_signC), (75, .fresh pontageref1_SubC), (86, .con pontageref1_CmpC)]
def ann53 : Anns := fun _ _ => none
theorem ev53 : ∀ x, evalFn env53 ann53 53 ⟨[.pl (.cons .bool (.cons (.sl (.int .i64)) .nil)), .pl (.cons .bool (.cons (.sl (.int .i64)) .nil))], []⟩ ⟨[.pl (.cons .bool (.cons (.sl (.int .i64)) .nil))], []⟩ 60 K0 x = pontageref3_Add x := by intro x; kernel_rfl
theorem ok53 : ConOk Try.prog 53 pontageref3_AddC := con_of_ev (E := env53) (envOk tysOk eqsOk (show HowsOk Try.prog [(58, .con pontageref1_AddC), (62, .con pontageref3_signC), (75, .fresh pontageref1_SubC), (86, .con pontageref1_CmpC)] from (And.intro ok58 (And.intro ok62 (And.intro okf75 (And.intro ok86 trivial))))) follows) noOddP fun x _ h => ⟨ann53, 60, K0, (ev53 x).trans h⟩
/-- pontage/pontageref1.Mul -/
noncomputable def pontageref1_MulC : Con := ⟨_, _, pontageref1_Mul⟩
noncomputable def env73 : Env := mkEnv Try.prog tys eqs [(88, .con pontageref1_normC)]
def ann73 : Anns := fun p c => match p, c with | [73], 0 => some (.tmpl ⟨[.pl (.sl (.int .i64)), .pl (.sl (.int .i64)), .dead, .dead, .dead, .whole 0, .pl (.int .i64), .dead, .dead, .dead, .dead, .dead, .dead, .dead, .dead, .dead, .dead, .dead, .dead, .dead, .dead, .dead, .dead, .dead, .dead, .dead, .dead, .dead, .dead, .dead, .dead, .dead, .dead, .dead, .dead, .dead, .dead, .dead, .dead, .dead, .dead, .dead, .dead, .dead, .dead, .dead, .dead, .dead, .dead, .dead, .dead, .dead, .dead, .dead, .dead, .dead, .dead, .dead, .dead, .dead, .dead, .dead, .dead], [.row (.int .i64)]⟩) | [73], 2 => some (.tmpl ⟨[.pl (.sl (.int .i64)), .pl (.sl (.int .i64)), .dead, .dead, .dead, .whole 0, .pl (.int .i64), .pl (.int .i64), .pl (.int .i64), .dead, .dead, .dead, .dead, .dead, .dead, .dead, .dead, .dead, .dead, .dead, .dead, .dead, .dead, .dead, .dead, .dead, .dead, .dead, .dead, .dead, .dead, .dead, .dead, .dead, .dead, .dead, .dead, .dead, .dead, .dead, .dead, .dead, .dead, .dead, .dead, .dead, .dead, .dead, .dead, .dead, .dead, .dead, .dead, .dead, .dead, .dead, .dead, .dead, .dead, .dead, .dead, .dead, .dead], [.row (.int .i64)]⟩) | _, _ => none
theorem ev73 : ∀ x, evalFn env73 ann73 73 ⟨[.pl (.sl (.int .i64)), .pl (.sl (.int .i64))], []⟩ ⟨[.pl (.sl (.int .i64))], []⟩ 60 K0 x = pontageref1_Mul x := by intro x; kernel_rfl
theorem ok73 : ConOk Try.prog 73 pontageref1_MulC := con_of_ev (E := env73) (envOk tysOk eqsOk (show HowsOk Try.prog [(88, .con pontageref1_normC)] from (And.intro ok88 trivial)) follows) noOddP fun x _ h => ⟨ann73, 60, K0, (ev73 x).trans h⟩
/-- pontage/pontageref3.Mul -/
noncomputable def pontageref3_MulC : Con := ⟨_, _, pontageref3_Mul⟩
noncomputable def env54 : Env := mkEnv Try.prog tys eqs [(62, .con pontageref3_signC), (73, .con pontageref1_MulC)]
def ann54 : Anns := fun _ _ => none
theorem ev54 : ∀ x, evalFn env54 ann54 54 ⟨[.pl (.cons .bool (.cons (.sl (.int .i64)) .nil)), .pl (.cons .bool (.cons (.sl (.int .i64)) .nil))], []⟩ ⟨[.pl (.cons .bool (.cons (.sl (.int .i64)) .nil))], []⟩ 60 K0 x = pontageref3_Mul x := by intro x; kernel_rfl
theorem ok54 : ConOk Try.prog 54 pontageref3_MulC := con_of_ev (E := env54) (envOk tysOk eqsOk (show HowsOk Try.prog [(62, .con pontageref3_signC), (73, .con pontageref1_MulC)] from (And.intro ok62 (And.intro ok73 trivial))) follows) noOddP fun x _ h => ⟨ann54, 60, K0, (ev54 x).trans h⟩
/-- pontage/pontageref1.Fits -/
noncomputable def pontageref1_FitsC : Con := ⟨_, _, pontageref1_Fits⟩
noncomputable def env55 : Env := mkEnv Try.prog tys eqs []
def ann55 : Anns := fun _ _ => none
theorem ev55 : ∀ x, evalFn env55 ann55 55 ⟨[.pl (.sl (.int .i64))], []⟩ ⟨[.pl .bool], []⟩ 60 K0 x = pontageref1_Fits x := by intro x; kernel_rfl
theorem ok55 : ConOk Try.prog 55 pontageref1_FitsC := con_of_ev (E := env55) (envOk tysOk eqsOk (show HowsOk Try.prog [] from trivial) follows) noOddP fun x _ h => ⟨ann55, 60, K0, (ev55 x).trans h⟩
/-- pontage/pontageref1.ToUint256 -/
noncomputable def pontageref1_ToUint256C : Con := ⟨_, _, pontageref1_ToUint256⟩
noncomputable def env76 : Env := mkEnv Try.prog tys eqs []
def ann76 : Anns := fun p c => match p, c with | [1000000, 76], 6 => some (.join ⟨[.pl (.sl (.int .i64)), .dead, .ptr 0 [], .ptr 1 [], .pl (.int .i64), .dead, .dead, .dead, .dead, .dead, .pl (.int .i64), .pl .bool, .dead, .dead, .dead, .dead, .dead, .dead, .dead, .dead, .dead, .dead, .dead, .dead, .dead, .dead, .dead, .dead, .dead, .dead, .dead, .dead, .dead, .dead], [.box (.arr 4 (.int .u64)) (.pl (.arr 4 (.int .u64))), .box (.arr 4 (.int .u64)) (.pl (.arr 4 (.int .u64)))]⟩) | [76], 0 => some (.tmpl ⟨[.pl (.sl (.int .i64)), .dead, .ptr 0 [], .ptr 1 [], .pl (.int .i64), .dead, .dead, .dead, .dead, .dead, .dead, .dead, .dead, .dead, .dead, .dead, .dead, .dead, .dead, .dead, .dead, .dead, .dead, .dead, .dead, .dead, .dead, .dead, .dead, .dead, .dead, .dead, .dead, .dead], [.box (.arr 4 (.int .u64)) (.pl (.arr 4 (.int .u64))), .box (.arr 4 (.int .u64)) (.pl (.arr 4 (.int .u64)))]⟩) | _, _ => none
theorem ev76 : ∀ x, evalFn env76 ann76 76 ⟨[.pl (.sl (.int .i64))], []⟩ ⟨[.pl (.arr 4 (.int .u64))], []⟩ 60 K0 x = pontageref1_ToUint256 x := by intro x; kernel_rfl
theorem ok76 : ConOk Try.prog 76 pontageref1_ToUint256C := con_of_ev (E := env76) (envOk tysOk eqsOk (show HowsOk Try.prog [] from trivial) follows) noOddP fun x _ h => ⟨ann76, 60, K0, (ev76 x).trans h⟩
/-- pontage/pontageref1.Checked -/
noncomputable def pontageref1_CheckedC : Con := ⟨_, _, pontageref1_Checked⟩
noncomputable def env89 : Env := mkEnv Try.prog tys eqs [(55, .con pontageref1_FitsC), (76, .con pontageref1_ToUint256C)]
def ann89 : Anns := fun _ _ => none
theorem ev89 : ∀ x, evalFn env89 ann89 89 ⟨[.pl (.sl (.int .i64))], []⟩ ⟨[.pl (.arr 4 (.int .u64)), .pl (.int .i64)], []⟩ 60 K0 x = pontageref1_Checked x := by intro x; kernel_rfl
theorem ok89 : ConOk Try.prog 89 pontageref1_CheckedC := con_of_ev (E := env89) (envOk tysOk eqsOk (show HowsOk Try.prog [(55, .con pontageref1_FitsC), (76, .con pontageref1_ToUint256C)] from (And.intro ok55 (And.intro ok76 trivial))) follows) noOddP fun x _ h => ⟨ann89, 60, K0, (ev89 x).trans h⟩
/-- pontage/pontageref3.Checked -/
noncomputable def pontageref3_CheckedC : Con := ⟨_, _, pontageref3_Checked⟩
noncomputable def env57 : Env := mkEnv Try.prog tys eqs [(89, .con pontageref1_CheckedC)]
def ann57 : Anns := fun _ _ => none
theorem ev57 : ∀ x, evalFn env57 ann57 57 ⟨[.pl (.cons .bool (.cons (.sl (.int .i64)) .nil))], []⟩ ⟨[.pl (.cons .bool (.cons (.arr 4 (.int .u64)) .nil)), .pl (.int .i64)], []⟩ 60 K0 x = pontageref3_Checked x := by intro x; kernel_rfl
theorem ok57 : ConOk Try.prog 57 pontageref3_CheckedC := con_of_ev (E := env57) (envOk tysOk eqsOk (show HowsOk Try.prog [(89, .con pontageref1_CheckedC)] from (And.intro ok89 trivial)) follows) noOddP fun x _ h => ⟨ann57, 60, K0, (ev57 x).trans h⟩
/-- pontage/pontageref19.Delta -/
noncomputable def pontageref19_DeltaC : Con := ⟨_, _, pontageref19_Delta⟩
noncomputable def env14 : Env := mkEnv Try.prog tys eqs [(47, .con pontageref12_ValidC), (48, .con pontageref3_ValidC), (49, .con pontageref3_DivFloorC), (50, .con pontageref3_NegateC), (51, .con pontageref3_FromInt256C), (52, .con pontageref1_FromUint64C), (53, .con pontageref3_AddC), (54, .con pontageref3_MulC), (55, .con pontageref1_FitsC), (56, .con pontageref1_DivC), (57, .con pontageref3_CheckedC), (58, .con pontageref1_AddC)]
def ann14 : Anns := fun p c => match p, c with | [1000000, 14], 13 => some (.join ⟨[.dead, .dead, .pl (.int .u64), .dead, .dead, .dead, .dead, .ptr 0 [], .ptr 1 [], .dead, .dead, .dead, .dead, .dead, .ptr 2 [], .dead, .dead, .dead, .dead, .dead, .dead, .dead, .dead, .dead, .dead, .dead, .dead, .dead, .dead, .dead, .dead, .dead, .dead, .dead, .dead, .dead, .dead, .dead, .dead, .dead, .dead, .dead, .dead, .dead, .dead, .dead, .dead, .dead, .dead, .dead, .dead, .dead, .dead, .dead, .dead, .dead, .dead, .dead, .dead, .dead, .dead, .dead, .dead, .dead, .dead, .dead, .dead, .dead, .dead, .dead, .dead, .dead, .dead, .dead, .dead, .dead, .dead, .dead, .dead, .dead, .dead, .dead, .dead, .dead, .dead, .dead, .dead, .dead, .dead, .dead, .dead, .dead, .dead, .dead, .dead, .dead], [.box (.cons (.int .u64) (.cons (.int .u64) (.cons (.int .u64) (.cons (.arr 4 (.int .u64)) (.cons (.int .u64) (.cons (.arr 4 (.int .u64)) (.cons (.int .u64) (.cons (.arr 4 (.int .u64)) (.cons (.int .u64) (.cons (.int .u64) (.cons (.int .u64) (.cons (.int .u64) .nil)))))))))))) (.pl (.cons (.int .u64) (.cons (.int .u64) (.cons (.int .u64) (.cons (.arr 4 (.int .u64)) (.cons (.int .u64) (.cons (.arr 4 (.int .u64)) (.cons (.int .u64) (.cons (.arr 4 (.int .u64)) (.cons (.int .u64) (.cons (.int .u64) (.cons (.int .u64) (.cons (.int .u64) .nil))))))))))))), .box (.cons .bool (.cons (.arr 4 (.int .u64)) .nil)) (.pl (.cons .bool (.cons (.arr 4 (.int .u64)) .nil))), .box (.cons .bool (.cons (.sl (.int .i64)) .nil)) (.pl (.cons .bool (.cons (.sl (.int .i64)) .nil)))]⟩) | [1000000, 14], 6 => some (.join ⟨[.dead, .dead, .pl (.int .u64), .dead, .ptr 0 [], .ptr 1 [], .dead, .ptr 2 [], .ptr 3 [], .dead, .dead, .dead, .dead, .dead, .dead, .dead, .dead, .dead, .dead, .dead, .dead, .dead, .dead, .dead, .dead, .dead, .dead, .dead, .dead, .dead, .dead, .dead, .dead, .dead, .dead, .dead, .dead, .dead, .dead, .dead, .dead, .dead, .dead, .dead, .dead, .dead, .dead, .dead, .dead, .dead, .dead, .dead, .dead, .dead, .dead, .dead, .dead, .dead, .dead, .dead, .dead, .dead, .dead, .dead, .dead, .dead, .dead, .dead, .dead, .dead, .dead, .dead, .dead, .dead, .dead, .dead, .dead, .dead, .dead, .dead, .dead, .dead, .dead, .dead, .dead, .dead, .dead, .dead, .dead, .dead, .dead, .dead, .dead, .dead, .dead, .dead], [.box (.cons .bool (.cons (.arr 4 (.int .u64)) .nil)) (.pl (.cons .bool (.cons (.arr 4 (.int .u64)) .nil))), .box (.cons .bool (.cons (.arr 4 (.int .u64)) .nil)) (.pl (.cons .bool (.cons (.arr 4 (.int .u64)) .nil))), .box (.cons (.int .u64) (.cons (.int .u64) (.cons (.int .u64) (.cons (.arr 4 (.int .u64)) (.cons (.int .u64) (.cons (.arr 4 (.int .u64)) (.cons (.int .u64) (.cons (.arr 4 (.int .u64)) (.cons (.int .u64) (.cons (.int .u64) (.cons (.int .u64) (.cons (.int .u64) .nil)))))))))))) (.pl (.cons (.int .u64) (.cons (.int .u64) (.cons (.int .u64) (.cons (.arr 4 (.int .u64)) (.cons (.int .u64) (.cons (.arr 4 (.int .u64)) (.cons (.int .u64) (.cons (.arr 4 (.int .u64)) (.cons (.int .u64) (.cons (.int .u64) (.cons (.int .u64) (.cons (.int .u64) .nil))))))))))))), .box (.cons .bool (.cons (.arr 4 (.int .u64)) .nil)) (.pl (.cons .bool (.cons (.arr 4 (.int .u64)) .nil)))]⟩) | _, _ => none
theorem ev14 : ∀ x, evalFn env14 ann14 14 ⟨[.pl (.cons .bool (.cons (.arr 4 (.int .u64)) .nil)), .pl (.cons .bool (.cons (.arr 4 (.int .u64)) .nil)), .pl (.int .u64), .pl (.cons (.int .u64) (.cons (.int .u64) (.cons (.int .u64) (.cons (.arr 4 (.int .u64)) (.cons (.int .u64) (.cons (.arr 4 (.int .u64)) (.cons (.int .u64) (.cons (.arr 4 (.int .u64)) (.cons (.int .u64) (.cons (.int .u64) (.cons (.int .u64) (.cons (.int .u64) .nil))))))))))))], []⟩ ⟨[.pl (.cons .bool (.cons (.arr 4 (.int .u64)) .nil)), .pl (.int .i64)], []⟩ 60 K0 x = pontageref19_Delta x := by intro x; kernel_rfl
theorem ok14 : ConOk Try.prog 14 pontageref19_DeltaC := con_of_ev (E := env14) (envOk tysOk eqsOk (show HowsOk Try.prog [(47, .con pontageref12_ValidC), (48, .con pontageref3_ValidC), (49, .con pontageref3_DivFloorC), (50, .con pontageref3_NegateC), (51, .con pontageref3_FromInt256C), (52, .con pontageref1_FromUint64C), (53, .con pontageref3_AddC), (54, .con pontageref3_MulC), (55, .con pontageref1_FitsC), (56, .con pontageref1_DivC), (57, .con pontageref3_CheckedC), (58, .con pontageref1_AddC)] from (And.intro ok47 (And.intro ok48 (And.intro ok49 (And.intro ok50 (And.intro ok51 (And.intro ok52 (And.intro ok53 (And.intro ok54 (And.intro ok55 (And.intro ok56 (And.intro ok57 (And.intro ok58 trivial))))))))))))) follows) noOddP fun x _ h => ⟨ann14, 60, K0, (ev14 x).trans h⟩
/-- pontage/int256.FromInt64 -/
noncomputable def int256_FromInt64C : Con := ⟨_, _, int256_FromInt64⟩
noncomputable def env15 : Env := mkEnv Try.prog tys eqs [(45, .con uint256_FromUint64C)]
def ann15 : Anns := fun _ _ => none
theorem ev15 : ∀ x, evalFn env15 ann15 15 ⟨[.pl (.int .i64)], []⟩ ⟨[.pl (.cons .bool (.cons (.arr 4 (.int .u64)) .nil))], []⟩ 60 K0 x = int256_FromInt64 x := by intro x; kernel_rfl
theorem ok15 : ConOk Try.prog 15 int256_FromInt64C := con_of_ev (E := env15) (envOk tysOk eqsOk (show HowsOk Try.prog [(45, .con uint256_FromUint64C)] from (And.intro ok45 trivial)) follows) noOddP fun x _ h => ⟨ann15, 60, K0, (ev15 x).trans h⟩
/-- pontage/int256.AddClamped -/
noncomputable def int256_AddClampedC : Con := ⟨_, _, int256_AddClamped⟩
noncomputable def env23 : Env := mkEnv Try.prog tys eqs [(20, .con int256_ValidC), (35, .con uint256_SaturatingSubC), (61, .con uint256_AddC)]
def ann23 : Anns := fun _ _ => none
theorem ev23 : ∀ x, evalFn env23 ann23 23 ⟨[.pl (.arr 4 (.int .u64)), .pl (.cons .bool (.cons (.arr 4 (.int .u64)) .nil))], []⟩ ⟨[.pl (.arr 4 (.int .u64)), .pl (.int .i64)], []⟩ 60 K0 x = int256_AddClamped x := by intro x; kernel_rfl
theorem ok23 : ConOk Try.prog 23 int256_AddClampedC := con_of_ev (E := env23) (envOk tysOk eqsOk (show HowsOk Try.prog [(20, .con int256_ValidC), (35, .con uint256_SaturatingSubC), (61, .con uint256_AddC)] from (And.intro ok20 (And.intro ok35 (And.intro ok61 trivial)))) follows) noOddP fun x _ h => ⟨ann23, 60, K0, (ev23 x).trans h⟩
/-- pontage/l1price.Next -/
noncomputable def l1price_NextC : Con := ⟨_, _, l1price_Next⟩
noncomputable def env18 : Env := mkEnv Try.prog tys eqs [(13, .con l1price_DeltaC), (20, .con int256_ValidC), (23, .con int256_AddClampedC), (44, .con params_ValidC)]
def ann18 : Anns := fun p c => match p, c with | [1000000, 18], 5 => some (.join ⟨[.dead, .dead, .dead, .pl (.int .u64), .dead, .ptr 0 [], .ptr 1 [], .ptr 2 [], .dead, .ptr 3 [], .ptr 4 [], .dead, .dead, .dead, .dead, .dead, .dead, .dead, .dead, .pl .bool, .dead, .dead, .dead, .dead, .dead, .dead, .dead, .dead, .dead, .dead, .dead, .dead, .dead, .dead, .dead, .dead, .dead, .dead, .dead, .dead, .dead, .dead, .dead, .dead, .dead, .dead, .dead, .dead, .dead, .dead], [.box (.arr 4 (.int .u64)) (.pl (.arr 4 (.int .u64))), .box (.cons .bool (.cons (.arr 4 (.int .u64)) .nil)) (.pl (.cons .bool (.cons (.arr 4 (.int .u64)) .nil))), .box (.cons .bool (.cons (.arr 4 (.int .u64)) .nil)) (.pl (.cons .bool (.cons (.arr 4 (.int .u64)) .nil))), .box (.cons (.int .u64) (.cons (.int .u64) (.cons (.int .u64) (.cons (.arr 4 (.int .u64)) (.cons (.int .u64) (.cons (.arr 4 (.int .u64)) (.cons (.int .u64) (.cons (.arr 4 (.int .u64)) (.cons (.int .u64) (.cons (.int .u64) (.cons (.int .u64) (.cons (.int .u64) .nil)))))))))))) (.pl (.cons (.int .u64) (.cons (.int .u64) (.cons (.int .u64) (.cons (.arr 4 (.int .u64)) (.cons (.int .u64) (.cons (.arr 4 (.int .u64)) (.cons (.int .u64) (.cons (.arr 4 (.int .u64)) (.cons (.int .u64) (.cons (.int .u64) (.cons (.int .u64) (.cons (.int .u64) .nil))))))))))))), .box (.arr 4 (.int .u64)) (.pl (.arr 4 (.int .u64)))]⟩) | [1000000, 18], 8 => some (.join ⟨[.dead, .dead, .dead, .pl (.int .u64), .dead, .ptr 0 [], .ptr 1 [], .ptr 2 [], .dead, .ptr 3 [], .ptr 4 [], .dead, .dead, .dead, .dead, .dead, .dead, .dead, .dead, .dead, .dead, .dead, .dead, .dead, .dead, .dead, .dead, .dead, .dead, .dead, .dead, .dead, .dead, .dead, .dead, .dead, .dead, .dead, .dead, .dead, .dead, .dead, .dead, .dead, .dead, .dead, .dead, .dead, .dead, .dead], [.box (.arr 4 (.int .u64)) (.pl (.arr 4 (.int .u64))), .box (.cons .bool (.cons (.arr 4 (.int .u64)) .nil)) (.pl (.cons .bool (.cons (.arr 4 (.int .u64)) .nil))), .box (.cons .bool (.cons (.arr 4 (.int .u64)) .nil)) (.pl (.cons .bool (.cons (.arr 4 (.int .u64)) .nil))), .box (.cons (.int .u64) (.cons (.int .u64) (.cons (.int .u64) (.cons (.arr 4 (.int .u64)) (.cons (.int .u64) (.cons (.arr 4 (.int .u64)) (.cons (.int .u64) (.cons (.arr 4 (.int .u64)) (.cons (.int .u64) (.cons (.int .u64) (.cons (.int .u64) (.cons (.int .u64) .nil)))))))))))) (.pl (.cons (.int .u64) (.cons (.int .u64) (.cons (.int .u64) (.cons (.arr 4 (.int .u64)) (.cons (.int .u64) (.cons (.arr 4 (.int .u64)) (.cons (.int .u64) (.cons (.arr 4 (.int .u64)) (.cons (.int .u64) (.cons (.int .u64) (.cons (.int .u64) (.cons (.int .u64) .nil))))))))))))), .box (.arr 4 (.int .u64)) (.pl (.arr 4 (.int .u64)))]⟩) | _, _ => none
theorem ev18 : ∀ x, evalFn env18 ann18 18 ⟨[.pl (.arr 4 (.int .u64)), .pl (.cons .bool (.cons (.arr 4 (.int .u64)) .nil)), .pl (.cons .bool (.cons (.arr 4 (.int .u64)) .nil)), .pl (.int .u64), .pl (.cons (.int .u64) (.cons (.int .u64) (.cons (.int .u64) (.cons (.arr 4 (.int .u64)) (.cons (.int .u64) (.cons (.arr 4 (.int .u64)) (.cons (.int .u64) (.cons (.arr 4 (.int .u64)) (.cons (.int .u64) (.cons (.int .u64) (.cons (.int .u64) (.cons (.int .u64) .nil))))))))))))], []⟩ ⟨[.pl (.arr 4 (.int .u64)), .pl (.int .i64)], []⟩ 60 K0 x = l1price_Next x := by intro x; kernel_rfl
theorem ok18 : ConOk Try.prog 18 l1price_NextC := con_of_ev (E := env18) (envOk tysOk eqsOk (show HowsOk Try.prog [(13, .con l1price_DeltaC), (20, .con int256_ValidC), (23, .con int256_AddClampedC), (44, .con params_ValidC)] from (And.intro ok13 (And.intro ok20 (And.intro ok23 (And.intro ok44 trivial))))) follows) noOddP fun x _ h => ⟨ann18, 60, K0, (ev18 x).trans h⟩
/-- pontage/pontagelaw19.awake -/
noncomputable def pontagelaw19_awakeC : Con := ⟨_, _, pontagelaw19_awake⟩
noncomputable def env16 : Env := mkEnv Try.prog tys eqs [(13, .con l1price_DeltaC), (15, .con int256_FromInt64C), (18, .con l1price_NextC), (43, .con params_GenesisC)]
def ann16 : Anns := fun _ _ => none
theorem ev16 : ∀ x, evalFn env16 ann16 16 ⟨[], []⟩ ⟨[.pl .bool], []⟩ 60 K0 x = pontagelaw19_awake x := by intro x; kernel_rfl
theorem ok16 : ConOk Try.prog 16 pontagelaw19_awakeC := con_of_ev (E := env16) (envOk tysOk eqsOk (show HowsOk Try.prog [(13, .con l1price_DeltaC), (15, .con int256_FromInt64C), (18, .con l1price_NextC), (43, .con params_GenesisC)] from (And.intro ok13 (And.intro ok15 (And.intro ok18 (And.intro ok43 trivial))))) follows) noOddP fun x _ h => ⟨ann16, 60, K0, (ev16 x).trans h⟩
/-- pontage/pontagelaw19.L1PriceDelta -/
noncomputable def pontagelaw19_L1PriceDeltaC : Con := ⟨_, _, pontagelaw19_L1PriceDelta⟩
noncomputable def env3 : Env := mkEnv Try.prog tys eqs [(12, .con pontagelaw14_ValidParamsC), (13, .con l1price_DeltaC), (14, .con pontageref19_DeltaC), (15, .con int256_FromInt64C), (16, .con pontagelaw19_awakeC)]
def ann3 : Anns := fun p c => match p, c with | [3], 0 => some (.tmpl ⟨[.dead, .dead, .pl (.int .u64), .dead, .dead, .pl (.int .i64), .pl (.int .i64), .ptr 0 [], .ptr 1 [], .dead, .dead, .dead, .dead, .dead, .dead, .dead, .dead, .dead, .dead, .dead, .dead, .dead, .dead, .dead, .dead, .dead, .dead, .dead, .dead, .dead, .pl (.arr 2 (.cons (.int .u64) (.cons (.int .u64) (.cons (.int .u64) (.cons (.arr 4 (.int .u64)) (.cons (.int .u64) (.cons (.arr 4 (.int .u64)) (.cons (.int .u64) (.cons (.arr 4 (.int .u64)) (.cons (.int .u64) (.cons (.int .u64) (.cons (.int .u64) (.cons (.int .u64) .nil))))))))))))), .pl (.int .i64), .dead, .dead, .dead, .dead, .dead, .dead, .dead, .dead, .dead, .dead, .dead, .dead, .dead, .dead, .dead, .dead, .dead, .dead, .dead, .dead, .dead, .dead, .dead, .dead, .dead, .dead, .dead, .dead, .dead, .dead, .dead, .dead, .dead, .dead, .dead, .dead, .dead, .dead, .dead, .dead, .dead, .dead, .dead, .dead, .dead, .dead, .dead, .dead, .dead, .dead, .dead, .dead, .dead, .dead, .dead, .dead, .dead, .dead, .dead, .dead, .dead, .dead, .dead, .dead, .dead, .dead], [.box (.cons .bool (.cons (.arr 4 (.int .u64)) .nil)) (.pl (.cons .bool (.cons (.arr 4 (.int .u64)) .nil))), .box (.cons .bool (.cons (.arr 4 (.int .u64)) .nil)) (.pl (.cons .bool (.cons (.arr 4 (.int .u64)) .nil)))]⟩) | [3], 2 => some (.tmpl ⟨[.dead, .dead, .pl (.int .u64), .dead, .dead, .pl (.int .i64), .pl (.int .i64), .ptr 0 [], .ptr 1 [], .dead, .dead, .dead, .dead, .dead, .dead, .dead, .ptr 2 [], .dead, .dead, .dead, .dead, .dead, .dead, .dead, .dead, .dead, .dead, .dead, .dead, .dead, .pl (.arr 2 (.cons (.int .u64) (.cons (.int .u64) (.cons (.int .u64) (.cons (.arr 4 (.int .u64)) (.cons (.int .u64) (.cons (.arr 4 (.int .u64)) (.cons (.int .u64) (.cons (.arr 4 (.int .u64)) (.cons (.int .u64) (.cons (.int .u64) (.cons (.int .u64) (.cons (.int .u64) .nil))))))))))))), .pl (.int .i64), .dead, .dead, .dead, .dead, .dead, .pl (.arr 2 (.int .u64)), .pl (.int .i64), .dead, .dead, .dead, .dead, .dead, .dead, .dead, .dead, .dead, .dead, .dead, .dead, .dead, .dead, .dead, .dead, .dead, .dead, .dead, .dead, .dead, .dead, .dead, .dead, .dead, .dead, .dead, .dead, .dead, .dead, .dead, .dead, .dead, .dead, .dead, .dead, .dead, .dead, .dead, .dead, .dead, .dead, .dead, .dead, .dead, .dead, .dead, .dead, .dead, .dead, .dead, .dead, .dead, .dead, .dead, .dead, .dead, .dead, .dead], [.box (.cons .bool (.cons (.arr 4 (.int .u64)) .nil)) (.pl (.cons .bool (.cons (.arr 4 (.int .u64)) .nil))), .box (.cons .bool (.cons (.arr 4 (.int .u64)) .nil)) (.pl (.cons .bool (.cons (.arr 4 (.int .u64)) .nil))), .box (.cons (.int .u64) (.cons (.int .u64) (.cons (.int .u64) (.cons (.arr 4 (.int .u64)) (.cons (.int .u64) (.cons (.arr 4 (.int .u64)) (.cons (.int .u64) (.cons (.arr 4 (.int .u64)) (.cons (.int .u64) (.cons (.int .u64) (.cons (.int .u64) (.cons (.int .u64) .nil)))))))))))) (.pl (.cons (.int .u64) (.cons (.int .u64) (.cons (.int .u64) (.cons (.arr 4 (.int .u64)) (.cons (.int .u64) (.cons (.arr 4 (.int .u64)) (.cons (.int .u64) (.cons (.arr 4 (.int .u64)) (.cons (.int .u64) (.cons (.int .u64) (.cons (.int .u64) (.cons (.int .u64) .nil)))))))))))))]⟩) | _, _ => none
theorem ev3 : ∀ x, evalFn env3 ann3 3 ⟨[.pl (.cons .bool (.cons (.arr 4 (.int .u64)) .nil)), .pl (.cons .bool (.cons (.arr 4 (.int .u64)) .nil)), .pl (.int .u64), .pl (.cons (.int .u64) (.cons (.int .u64) (.cons (.int .u64) (.cons (.arr 4 (.int .u64)) (.cons (.int .u64) (.cons (.arr 4 (.int .u64)) (.cons (.int .u64) (.cons (.arr 4 (.int .u64)) (.cons (.int .u64) (.cons (.int .u64) (.cons (.int .u64) (.cons (.int .u64) .nil)))))))))))), .pl (.arr 8 (.int .u64)), .pl (.int .i64), .pl (.int .i64)], []⟩ ⟨[.pl .bool], []⟩ 60 K0 x = pontagelaw19_L1PriceDelta x := by intro x; kernel_rfl
theorem ok3 : ConOk Try.prog 3 pontagelaw19_L1PriceDeltaC := con_of_ev (E := env3) (envOk tysOk eqsOk (show HowsOk Try.prog [(12, .con pontagelaw14_ValidParamsC), (13, .con l1price_DeltaC), (14, .con pontageref19_DeltaC), (15, .con int256_FromInt64C), (16, .con pontagelaw19_awakeC)] from (And.intro ok12 (And.intro ok13 (And.intro ok14 (And.intro ok15 (And.intro ok16 trivial)))))) follows) noOddP fun x _ h => ⟨ann3, 60, K0, (ev3 x).trans h⟩
/-- pontage/pontageref3.AddClamped -/
noncomputable def pontageref3_AddClampedC : Con := ⟨_, _, pontageref3_AddClamped⟩
noncomputable def env59 : Env := mkEnv Try.prog tys eqs [(48, .con pontageref3_ValidC), (51, .con pontageref3_FromInt256C), (53, .con pontageref3_AddC), (62, .con pontageref3_signC), (63, .con pontageref1_FromUint256C), (89, .con pontageref1_CheckedC)]
def ann59 : Anns := fun _ _ => none
theorem ev59 : ∀ x, evalFn env59 ann59 59 ⟨[.pl (.arr 4 (.int .u64)), .pl (.cons .bool (.cons (.arr 4 (.int .u64)) .nil))], []⟩ ⟨[.pl (.arr 4 (.int .u64)), .pl (.int .i64)], []⟩ 60 K0 x = pontageref3_AddClamped x := by intro x; kernel_rfl
theorem ok59 : ConOk Try.prog 59 pontageref3_AddClampedC := con_of_ev (E := env59) (envOk tysOk eqsOk (show HowsOk Try.prog [(48, .con pontageref3_ValidC), (51, .con pontageref3_FromInt256C), (53, .con pontageref3_AddC), (62, .con pontageref3_signC), (63, .con pontageref1_FromUint256C), (89, .con pontageref1_CheckedC)] from (And.intro ok48 (And.intro ok51 (And.intro ok53 (And.intro ok62 (And.intro ok63 (And.intro ok89 trivial))))))) follows) noOddP fun x _ h => ⟨ann59, 60, K0, (ev59 x).trans h⟩
/-- pontage/pontageref19.Next -/
noncomputable def pontageref19_NextC : Con := ⟨_, _, pontageref19_Next⟩
noncomputable def env19 : Env := mkEnv Try.prog tys eqs [(14, .con pontageref19_DeltaC), (47, .con pontageref12_ValidC), (48, .con pontageref3_ValidC), (59, .con pontageref3_AddClampedC)]
def ann19 : Anns := fun p c => match p, c with | [1000000, 19], 6 => some (.join ⟨[.dead, .dead, .dead, .pl (.int .u64), .dead, .ptr 0 [], .ptr 1 [], .ptr 2 [], .dead, .ptr 3 [], .ptr 4 [], .dead, .dead, .dead, .dead, .dead, .dead, .dead, .dead, .dead, .dead, .dead, .dead, .dead, .dead, .dead, .dead, .dead, .dead, .dead, .dead, .dead, .dead, .dead, .dead, .dead, .dead, .dead, .dead, .dead, .dead, .dead, .dead, .dead, .dead, .dead, .dead], [.box (.arr 4 (.int .u64)) (.pl (.arr 4 (.int .u64))), .box (.cons .bool (.cons (.arr 4 (.int .u64)) .nil)) (.pl (.cons .bool (.cons (.arr 4 (.int .u64)) .nil))), .box (.cons .bool (.cons (.arr 4 (.int .u64)) .nil)) (.pl (.cons .bool (.cons (.arr 4 (.int .u64)) .nil))), .box (.cons (.int .u64) (.cons (.int .u64) (.cons (.int .u64) (.cons (.arr 4 (.int .u64)) (.cons (.int .u64) (.cons (.arr 4 (.int .u64)) (.cons (.int .u64) (.cons (.arr 4 (.int .u64)) (.cons (.int .u64) (.cons (.int .u64) (.cons (.int .u64) (.cons (.int .u64) .nil)))))))))))) (.pl (.cons (.int .u64) (.cons (.int .u64) (.cons (.int .u64) (.cons (.arr 4 (.int .u64)) (.cons (.int .u64) (.cons (.arr 4 (.int .u64)) (.cons (.int .u64) (.cons (.arr 4 (.int .u64)) (.cons (.int .u64) (.cons (.int .u64) (.cons (.int .u64) (.cons (.int .u64) .nil))))))))))))), .box (.arr 4 (.int .u64)) (.pl (.arr 4 (.int .u64)))]⟩) | _, _ => none
theorem ev19 : ∀ x, evalFn env19 ann19 19 ⟨[.pl (.arr 4 (.int .u64)), .pl (.cons .bool (.cons (.arr 4 (.int .u64)) .nil)), .pl (.cons .bool (.cons (.arr 4 (.int .u64)) .nil)), .pl (.int .u64), .pl (.cons (.int .u64) (.cons (.int .u64) (.cons (.int .u64) (.cons (.arr 4 (.int .u64)) (.cons (.int .u64) (.cons (.arr 4 (.int .u64)) (.cons (.int .u64) (.cons (.arr 4 (.int .u64)) (.cons (.int .u64) (.cons (.int .u64) (.cons (.int .u64) (.cons (.int .u64) .nil))))))))))))], []⟩ ⟨[.pl (.arr 4 (.int .u64)), .pl (.int .i64)], []⟩ 60 K0 x = pontageref19_Next x := by intro x; kernel_rfl
theorem ok19 : ConOk Try.prog 19 pontageref19_NextC := con_of_ev (E := env19) (envOk tysOk eqsOk (show HowsOk Try.prog [(14, .con pontageref19_DeltaC), (47, .con pontageref12_ValidC), (48, .con pontageref3_ValidC), (59, .con pontageref3_AddClampedC)] from (And.intro ok14 (And.intro ok47 (And.intro ok48 (And.intro ok59 trivial))))) follows) noOddP fun x _ h => ⟨ann19, 60, K0, (ev19 x).trans h⟩
/-- pontage/pontagelaw19.L1PriceNext -/
noncomputable def pontagelaw19_L1PriceNextC : Con := ⟨_, _, pontagelaw19_L1PriceNext⟩
noncomputable def env4 : Env := mkEnv Try.prog tys eqs [(12, .con pontagelaw14_ValidParamsC), (16, .con pontagelaw19_awakeC), (17, .con int256_NewC), (18, .con l1price_NextC), (19, .con pontageref19_NextC)]
def ann4 : Anns := fun p c => match p, c with | [4], 0 => some (.tmpl ⟨[.dead, .dead, .dead, .pl (.int .u64), .dead, .dead, .pl (.int .u64), .dead, .dead, .dead, .dead, .ptr 0 [], .ptr 1 [], .ptr 2 [], .dead, .dead, .dead, .dead, .dead, .dead, .dead, .dead, .dead, .ptr 3 [], .ptr 4 [], .dead, .dead, .dead, .dead, .dead, .dead, .dead, .dead, .dead, .dead, .dead, .dead, .dead, .dead, .dead, .dead, .dead, .dead, .dead, .dead, .dead, .dead, .dead, .dead, .dead, .dead, .dead, .pl (.arr 2 (.cons (.int .u64) (.cons (.int .u64) (.cons (.int .u64) (.cons (.arr 4 (.int .u64)) (.cons (.int .u64) (.cons (.arr 4 (.int .u64)) (.cons (.int .u64) (.cons (.arr 4 (.int .u64)) (.cons (.int .u64) (.cons (.int .u64) (.cons (.int .u64) (.cons (.int .u64) .nil))))))))))))), .pl (.int .i64), .dead, .dead, .dead, .dead, .dead, .dead, .dead, .dead, .dead, .dead, .dead, .dead, .dead, .dead, .dead, .dead, .dead, .dead, .dead, .dead, .dead, .dead, .dead, .dead, .dead, .dead, .dead, .dead, .dead, .dead, .dead, .dead, .dead, .dead, .dead, .dead, .dead, .dead, .dead, .dead, .dead, .dead, .dead, .dead, .dead, .dead, .dead, .dead, .dead, .dead, .dead, .dead, .dead, .dead, .dead, .dead, .dead, .dead, .dead, .dead, .dead, .dead, .dead, .dead, .dead, .dead, .dead, .dead], [.box (.arr 4 (.int .u64)) (.pl (.arr 4 (.int .u64))), .box (.cons .bool (.cons (.arr 4 (.int .u64)) .nil)) (.pl (.cons .bool (.cons (.arr 4 (.int .u64)) .nil))), .box (.cons .bool (.cons (.arr 4 (.int .u64)) .nil)) (.pl (.cons .bool (.cons (.arr 4 (.int .u64)) .nil))), .box (.cons .bool (.cons (.arr 4 (.int .u64)) .nil)) (.pl (.cons .bool (.cons (.arr 4 (.int .u64)) .nil))), .box (.cons .bool (.cons (.arr 4 (.int .u64)) .nil)) (.pl (.cons .bool (.cons (.arr 4 (.int .u64)) .nil)))]⟩) | [4], 2 => some (.tmpl ⟨[.dead, .dead, .dead, .pl (.int .u64), .dead, .dead, .pl (.int .u64), .dead, .dead, .dead, .dead, .ptr 0 [], .ptr 1 [], .ptr 2 [], .dead, .dead, .dead, .dead, .dead, .dead, .dead, .dead, .dead, .ptr 3 [], .ptr 4 [], .dead, .ptr 5 [], .dead, .dead, .dead, .dead, .dead, .dead, .dead, .dead, .dead, .dead, .dead, .dead, .dead, .dead, .dead, .dead, .dead, .dead, .dead, .dead, .dead, .dead, .dead, .dead, .dead, .pl (.arr 2 (.cons (.int .u64) (.cons (.int .u64) (.cons (.int .u64) (.cons (.arr 4 (.int .u64)) (.cons (.int .u64) (.cons (.arr 4 (.int .u64)) (.cons (.int .u64) (.cons (.arr 4 (.int .u64)) (.cons (.int .u64) (.cons (.int .u64) (.cons (.int .u64) (.cons (.int .u64) .nil))))))))))))), .pl (.int .i64), .dead, .dead, .dead, .dead, .dead, .pl (.arr 2 (.int .u64)), .pl (.int .i64), .dead, .dead, .dead, .dead, .dead, .dead, .dead, .dead, .dead, .dead, .dead, .dead, .dead, .dead, .dead, .dead, .dead, .dead, .dead, .dead, .dead, .dead, .dead, .dead, .dead, .dead, .dead, .dead, .dead, .dead, .dead, .dead, .dead, .dead, .dead, .dead, .dead, .dead, .dead, .dead, .dead, .dead, .dead, .dead, .dead, .dead, .dead, .dead, .dead, .dead, .dead, .dead, .dead, .dead, .dead, .dead, .dead, .dead, .dead, .dead, .dead], [.box (.arr 4 (.int .u64)) (.pl (.arr 4 (.int .u64))), .box (.cons .bool (.cons (.arr 4 (.int .u64)) .nil)) (.pl (.cons .bool (.cons (.arr 4 (.int .u64)) .nil))), .box (.cons .bool (.cons (.arr 4 (.int .u64)) .nil)) (.pl (.cons .bool (.cons (.arr 4 (.int .u64)) .nil))), .box (.cons .bool (.cons (.arr 4 (.int .u64)) .nil)) (.pl (.cons .bool (.cons (.arr 4 (.int .u64)) .nil))), .box (.cons .bool (.cons (.arr 4 (.int .u64)) .nil)) (.pl (.cons .bool (.cons (.arr 4 (.int .u64)) .nil))), .box (.cons (.int .u64) (.cons (.int .u64) (.cons (.int .u64) (.cons (.arr 4 (.int .u64)) (.cons (.int .u64) (.cons (.arr 4 (.int .u64)) (.cons (.int .u64) (.cons (.arr 4 (.int .u64)) (.cons (.int .u64) (.cons (.int .u64) (.cons (.int .u64) (.cons (.int .u64) .nil)))))))))))) (.pl (.cons (.int .u64) (.cons (.int .u64) (.cons (.int .u64) (.cons (.arr 4 (.int .u64)) (.cons (.int .u64) (.cons (.arr 4 (.int .u64)) (.cons (.int .u64) (.cons (.arr 4 (.int .u64)) (.cons (.int .u64) (.cons (.int .u64) (.cons (.int .u64) (.cons (.int .u64) .nil)))))))))))))]⟩) | _, _ => none
theorem ev4 : ∀ x, evalFn env4 ann4 4 ⟨[.pl (.arr 4 (.int .u64)), .pl (.cons .bool (.cons (.arr 4 (.int .u64)) .nil)), .pl (.cons .bool (.cons (.arr 4 (.int .u64)) .nil)), .pl (.int .u64), .pl (.cons (.int .u64) (.cons (.int .u64) (.cons (.int .u64) (.cons (.arr 4 (.int .u64)) (.cons (.int .u64) (.cons (.arr 4 (.int .u64)) (.cons (.int .u64) (.cons (.arr 4 (.int .u64)) (.cons (.int .u64) (.cons (.int .u64) (.cons (.int .u64) (.cons (.int .u64) .nil)))))))))))), .pl (.arr 8 (.int .u64)), .pl (.int .u64), .pl (.int .u64), .pl (.int .u64), .pl .bool, .pl .bool], []⟩ ⟨[.pl .bool], []⟩ 60 K0 x = pontagelaw19_L1PriceNext x := by intro x; kernel_rfl
theorem ok4 : ConOk Try.prog 4 pontagelaw19_L1PriceNextC := con_of_ev (E := env4) (envOk tysOk eqsOk (show HowsOk Try.prog [(12, .con pontagelaw14_ValidParamsC), (16, .con pontagelaw19_awakeC), (17, .con int256_NewC), (18, .con l1price_NextC), (19, .con pontageref19_NextC)] from (And.intro ok12 (And.intro ok16 (And.intro ok17 (And.intro ok18 (And.intro ok19 trivial)))))) follows) noOddP fun x _ h => ⟨ann4, 60, K0, (ev4 x).trans h⟩
/-- pontage/pontagelaw19.L1PriceUnchanged -/
noncomputable def pontagelaw19_L1PriceUnchangedC : Con := ⟨_, _, pontagelaw19_L1PriceUnchanged⟩
noncomputable def env5 : Env := mkEnv Try.prog tys eqs [(12, .con pontagelaw14_ValidParamsC), (16, .con pontagelaw19_awakeC), (18, .con l1price_NextC), (20, .con int256_ValidC)]
def ann5 : Anns := fun p c => match p, c with | [1000000, 5], 4 => some (.join ⟨[.dead, .dead, .dead, .pl (.int .u64), .dead, .ptr 0 [], .ptr 1 [], .ptr 2 [], .dead, .dead, .dead, .ptr 3 [], .dead, .dead, .dead, .dead, .dead, .dead, .dead, .dead, .dead, .dead, .dead, .dead, .dead, .pl .bool, .dead, .dead, .dead, .dead, .dead, .dead, .dead, .dead, .dead, .dead, .dead, .dead, .dead, .dead, .dead, .dead, .dead, .dead, .dead, .dead, .dead, .dead, .dead, .dead, .dead, .dead, .dead, .dead, .dead, .dead, .dead, .dead, .dead, .dead, .dead, .dead, .dead, .dead, .dead], [.box (.arr 4 (.int .u64)) (.pl (.arr 4 (.int .u64))), .box (.cons .bool (.cons (.arr 4 (.int .u64)) .nil)) (.pl (.cons .bool (.cons (.arr 4 (.int .u64)) .nil))), .box (.cons .bool (.cons (.arr 4 (.int .u64)) .nil)) (.pl (.cons .bool (.cons (.arr 4 (.int .u64)) .nil))), .box (.cons (.int .u64) (.cons (.int .u64) (.cons (.int .u64) (.cons (.arr 4 (.int .u64)) (.cons (.int .u64) (.cons (.arr 4 (.int .u64)) (.cons (.int .u64) (.cons (.arr 4 (.int .u64)) (.cons (.int .u64) (.cons (.int .u64) (.cons (.int .u64) (.cons (.int .u64) .nil)))))))))))) (.pl (.cons (.int .u64) (.cons (.int .u64) (.cons (.int .u64) (.cons (.arr 4 (.int .u64)) (.cons (.int .u64) (.cons (.arr 4 (.int .u64)) (.cons (.int .u64) (.cons (.arr 4 (.int .u64)) (.cons (.int .u64) (.cons (.int .u64) (.cons (.int .u64) (.cons (.int .u64) .nil)))))))))))))]⟩) | [1000000, 5], 5 => some (.join ⟨[.dead, .dead, .dead, .pl (.int .u64), .dead, .ptr 0 [], .ptr 1 [], .ptr 2 [], .dead, .dead, .dead, .ptr 3 [], .dead, .dead, .dead, .dead, .dead, .dead, .dead, .dead, .dead, .dead, .dead, .dead, .dead, .dead, .dead, .dead, .dead, .dead, .dead, .dead, .dead, .dead, .dead, .dead, .dead, .dead, .dead, .dead, .dead, .dead, .dead, .dead, .dead, .dead, .dead, .dead, .dead, .dead, .dead, .dead, .dead, .dead, .dead, .dead, .dead, .dead, .dead, .dead, .dead, .dead, .dead, .dead, .dead], [.box (.arr 4 (.int .u64)) (.pl (.arr 4 (.int .u64))), .box (.cons .bool (.cons (.arr 4 (.int .u64)) .nil)) (.pl (.cons .bool (.cons (.arr 4 (.int .u64)) .nil))), .box (.cons .bool (.cons (.arr 4 (.int .u64)) .nil)) (.pl (.cons .bool (.cons (.arr 4 (.int .u64)) .nil))), .box (.cons (.int .u64) (.cons (.int .u64) (.cons (.int .u64) (.cons (.arr 4 (.int .u64)) (.cons (.int .u64) (.cons (.arr 4 (.int .u64)) (.cons (.int .u64) (.cons (.arr 4 (.int .u64)) (.cons (.int .u64) (.cons (.int .u64) (.cons (.int .u64) (.cons (.int .u64) .nil)))))))))))) (.pl (.cons (.int .u64) (.cons (.int .u64) (.cons (.int .u64) (.cons (.arr 4 (.int .u64)) (.cons (.int .u64) (.cons (.arr 4 (.int .u64)) (.cons (.int .u64) (.cons (.arr 4 (.int .u64)) (.cons (.int .u64) (.cons (.int .u64) (.cons (.int .u64) (.cons (.int .u64) .nil)))))))))))))]⟩) | _, _ => none
theorem ev5 : ∀ x, evalFn env5 ann5 5 ⟨[.pl (.arr 4 (.int .u64)), .pl (.cons .bool (.cons (.arr 4 (.int .u64)) .nil)), .pl (.cons .bool (.cons (.arr 4 (.int .u64)) .nil)), .pl (.int .u64), .pl (.arr 8 (.int .u64))], []⟩ ⟨[.pl .bool], []⟩ 60 K0 x = pontagelaw19_L1PriceUnchanged x := by intro x; kernel_rfl
theorem ok5 : ConOk Try.prog 5 pontagelaw19_L1PriceUnchangedC := con_of_ev (E := env5) (envOk tysOk eqsOk (show HowsOk Try.prog [(12, .con pontagelaw14_ValidParamsC), (16, .con pontagelaw19_awakeC), (18, .con l1price_NextC), (20, .con int256_ValidC)] from (And.intro ok12 (And.intro ok16 (And.intro ok18 (And.intro ok20 trivial))))) follows) noOddP fun x _ h => ⟨ann5, 60, K0, (ev5 x).trans h⟩
/-- pontage/pontagelaw19.L1PriceDirection -/
noncomputable def pontagelaw19_L1PriceDirectionC : Con := ⟨_, _, pontagelaw19_L1PriceDirection⟩
noncomputable def env6 : Env := mkEnv Try.prog tys eqs [(12, .con pontagelaw14_ValidParamsC), (16, .con pontagelaw19_awakeC), (17, .con int256_NewC), (18, .con l1price_NextC), (21, .con uint256_CmpC)]
def ann6 : Anns := fun _ _ => none
theorem ev6 : ∀ x, evalFn env6 ann6 6 ⟨[.pl (.int .u64), .pl (.int .u64), .pl (.int .u64), .pl (.arr 8 (.int .u64))], []⟩ ⟨[.pl .bool], []⟩ 60 K0 x = pontagelaw19_L1PriceDirection x := by intro x; kernel_rfl
theorem ok6 : ConOk Try.prog 6 pontagelaw19_L1PriceDirectionC := con_of_ev (E := env6) (envOk tysOk eqsOk (show HowsOk Try.prog [(12, .con pontagelaw14_ValidParamsC), (16, .con pontagelaw19_awakeC), (17, .con int256_NewC), (18, .con l1price_NextC), (21, .con uint256_CmpC)] from (And.intro ok12 (And.intro ok16 (And.intro ok17 (And.intro ok18 (And.intro ok21 trivial)))))) follows) noOddP fun x _ h => ⟨ann6, 60, K0, (ev6 x).trans h⟩
/-- pontage/l1price.Surplus -/
noncomputable def l1price_SurplusC : Con := ⟨_, _, l1price_Surplus⟩
noncomputable def env22 : Env := mkEnv Try.prog tys eqs [(60, .con int256_DiffC)]
def ann22 : Anns := fun _ _ => none
theorem ev22 : ∀ x, evalFn env22 ann22 22 ⟨[.pl (.arr 4 (.int .u64)), .pl (.arr 4 (.int .u64))], []⟩ ⟨[.pl (.cons .bool (.cons (.arr 4 (.int .u64)) .nil))], []⟩ 60 K0 x = l1price_Surplus x := by intro x; kernel_rfl
theorem ok22 : ConOk Try.prog 22 l1price_SurplusC := con_of_ev (E := env22) (envOk tysOk eqsOk (show HowsOk Try.prog [(60, .con int256_DiffC)] from (And.intro ok60 trivial)) follows) noOddP fun x _ h => ⟨ann22, 60, K0, (ev22 x).trans h⟩
/-- pontage/pontageref3.Diff -/
noncomputable def pontageref3_DiffC : Con := ⟨_, _, pontageref3_Diff⟩
noncomputable def env24 : Env := mkEnv Try.prog tys eqs [(53, .con pontageref3_AddC), (57, .con pontageref3_CheckedC), (62, .con pontageref3_signC), (63, .con pontageref1_FromUint256C)]
def ann24 : Anns := fun _ _ => none
theorem ev24 : ∀ x, evalFn env24 ann24 24 ⟨[.pl (.arr 4 (.int .u64)), .pl (.arr 4 (.int .u64))], []⟩ ⟨[.pl (.cons .bool (.cons (.arr 4 (.int .u64)) .nil))], []⟩ 60 K0 x = pontageref3_Diff x := by intro x; kernel_rfl
theorem ok24 : ConOk Try.prog 24 pontageref3_DiffC := con_of_ev (E := env24) (envOk tysOk eqsOk (show HowsOk Try.prog [(53, .con pontageref3_AddC), (57, .con pontageref3_CheckedC), (62, .con pontageref3_signC), (63, .con pontageref1_FromUint256C)] from (And.intro ok53 (And.intro ok57 (And.intro ok62 (And.intro ok63 trivial))))) follows) noOddP fun x _ h => ⟨ann24, 60, K0, (ev24 x).trans h⟩
/-- pontage/pontagelaw19.L1PriceSurplus -/
noncomputable def pontagelaw19_L1PriceSurplusC : Con := ⟨_, _, pontagelaw19_L1PriceSurplus⟩
noncomputable def env7 : Env := mkEnv Try.prog tys eqs [(16, .con pontagelaw19_awakeC), (20, .con int256_ValidC), (21, .con uint256_CmpC), (22, .con l1price_SurplusC), (23, .con int256_AddClampedC), (24, .con pontageref3_DiffC)]
def ann7 : Anns := fun _ _ => none
theorem ev7 : ∀ x, evalFn env7 ann7 7 ⟨[.pl (.arr 4 (.int .u64)), .pl (.arr 4 (.int .u64))], []⟩ ⟨[.pl .bool], []⟩ 60 K0 x = pontagelaw19_L1PriceSurplus x := by intro x; kernel_rfl
theorem ok7 : ConOk Try.prog 7 pontagelaw19_L1PriceSurplusC := con_of_ev (E := env7) (envOk tysOk eqsOk (show HowsOk Try.prog [(16, .con pontagelaw19_awakeC), (20, .con int256_ValidC), (21, .con uint256_CmpC), (22, .con l1price_SurplusC), (23, .con int256_AddClampedC), (24, .con pontageref3_DiffC)] from (And.intro ok16 (And.intro ok20 (And.intro ok21 (And.intro ok22 (And.intro ok23 (And.intro ok24 trivial))))))) follows) noOddP fun x _ h => ⟨ann7, 60, K0, (ev7 x).trans h⟩
/-- pontage/int256.Cmp -/
noncomputable def int256_CmpC : Con := ⟨_, _, int256_Cmp⟩
noncomputable def env28 : Env := mkEnv Try.prog tys eqs [(20, .con int256_ValidC), (21, .con uint256_CmpC)]
def ann28 : Anns := fun p c => match p, c with | [1000000, 28], 3 => some (.join ⟨[.dead, .dead, .ptr 0 [], .ptr 1 [], .dead, .pl .bool, .dead, .dead, .dead, .dead, .dead, .dead, .dead, .dead, .dead, .dead, .dead, .dead, .dead, .dead, .dead, .dead, .dead, .dead, .dead, .dead, .dead, .dead, .dead, .dead, .dead, .dead, .dead, .dead, .dead, .dead, .dead], [.box (.cons .bool (.cons (.arr 4 (.int .u64)) .nil)) (.pl (.cons .bool (.cons (.arr 4 (.int .u64)) .nil))), .box (.cons .bool (.cons (.arr 4 (.int .u64)) .nil)) (.pl (.cons .bool (.cons (.arr 4 (.int .u64)) .nil)))]⟩) | [1000000, 28], 5 => some (.join ⟨[.dead, .dead, .ptr 0 [], .ptr 1 [], .dead, .dead, .dead, .dead, .dead, .dead, .dead, .dead, .dead, .dead, .pl .bool, .dead, .dead, .dead, .dead, .dead, .dead, .dead, .dead, .dead, .dead, .dead, .dead, .dead, .dead, .dead, .dead, .dead, .dead, .dead, .dead, .dead, .dead], [.box (.cons .bool (.cons (.arr 4 (.int .u64)) .nil)) (.pl (.cons .bool (.cons (.arr 4 (.int .u64)) .nil))), .box (.cons .bool (.cons (.arr 4 (.int .u64)) .nil)) (.pl (.cons .bool (.cons (.arr 4 (.int .u64)) .nil)))]⟩) | _, _ => none
theorem ev28 : ∀ x, evalFn env28 ann28 28 ⟨[.pl (.cons .bool (.cons (.arr 4 (.int .u64)) .nil)), .pl (.cons .bool (.cons (.arr 4 (.int .u64)) .nil))], []⟩ ⟨[.pl (.int .i64)], []⟩ 60 K0 x = int256_Cmp x := by intro x; kernel_rfl
theorem ok28 : ConOk Try.prog 28 int256_CmpC := con_of_ev (E := env28) (envOk tysOk eqsOk (show HowsOk Try.prog [(20, .con int256_ValidC), (21, .con uint256_CmpC)] from (And.intro ok20 (And.intro ok21 trivial))) follows) noOddP fun x _ h => ⟨ann28, 60, K0, (ev28 x).trans h⟩
/-- pontage/pontagelaw19.L1priceDamped -/
noncomputable def pontagelaw19_L1priceDampedC : Con := ⟨_, _, pontagelaw19_L1priceDamped⟩
noncomputable def env8 : Env := mkEnv Try.prog tys eqs [(12, .con pontagelaw14_ValidParamsC), (13, .con l1price_DeltaC), (15, .con int256_FromInt64C), (16, .con pontagelaw19_awakeC), (25, .con int256_NegC), (26, .con int256_SubC), (27, .con int256_DivFloorC), (28, .con int256_CmpC)]
def ann8 : Anns := fun p c => match p, c with | [1000000, 8], 13 => some (.join ⟨[.dead, .dead, .dead, .dead, .dead, .dead, .dead, .dead, .dead, .dead, .dead, .dead, .dead, .dead, .dead, .dead, .dead, .dead, .dead, .dead, .dead, .ptr 0 [], .dead, .ptr 1 [], .dead, .dead, .dead, .dead, .dead, .dead, .dead, .dead, .dead, .dead, .dead, .dead, .dead, .dead, .dead, .dead, .dead, .dead, .dead, .dead, .dead, .dead, .dead, .dead, .dead, .dead, .dead, .dead, .dead, .dead, .dead, .dead, .dead, .dead, .dead, .dead, .dead, .dead, .dead, .dead, .dead, .dead, .dead, .dead, .dead, .dead, .dead, .dead, .dead, .dead, .dead, .dead, .dead, .dead, .dead, .dead, .dead, .dead, .dead, .dead, .dead, .dead, .dead, .dead, .dead, .dead, .dead, .dead, .dead, .dead, .dead, .dead, .dead, .dead, .dead, .dead, .dead, .dead, .dead, .dead, .dead, .dead, .dead, .dead, .dead, .dead, .dead, .dead, .dead, .dead, .dead, .dead, .dead, .dead, .dead, .dead, .dead], [.box (.cons .bool (.cons (.arr 4 (.int .u64)) .nil)) (.pl (.cons .bool (.cons (.arr 4 (.int .u64)) .nil))), .box (.cons .bool (.cons (.arr 4 (.int .u64)) .nil)) (.pl (.cons .bool (.cons (.arr 4 (.int .u64)) .nil)))]⟩) | _, _ => none
theorem ev8 : ∀ x, evalFn env8 ann8 8 ⟨[.pl (.int .i64), .pl (.int .i64), .pl (.int .u64), .pl (.arr 8 (.int .u64))], []⟩ ⟨[.pl .bool], []⟩ 60 K0 x = pontagelaw19_L1priceDamped x := by intro x; kernel_rfl
theorem ok8 : ConOk Try.prog 8 pontagelaw19_L1priceDampedC := con_of_ev (E := env8) (envOk tysOk eqsOk (show HowsOk Try.prog [(12, .con pontagelaw14_ValidParamsC), (13, .con l1price_DeltaC), (15, .con int256_FromInt64C), (16, .con pontagelaw19_awakeC), (25, .con int256_NegC), (26, .con int256_SubC), (27, .con int256_DivFloorC), (28, .con int256_CmpC)] from (And.intro ok12 (And.intro ok13 (And.intro ok15 (And.intro ok16 (And.intro ok25 (And.intro ok26 (And.intro ok27 (And.intro ok28 trivial))))))))) follows) noOddP fun x _ h => ⟨ann8, 60, K0, (ev8 x).trans h⟩
/-- pontage/uint256.Min -/
noncomputable def uint256_MinC : Con := ⟨_, _, uint256_Min⟩
noncomputable def env38 : Env := mkEnv Try.prog tys eqs [(21, .con uint256_CmpC)]
def ann38 : Anns := fun p c => match p, c with | [38], 0 => some (.tmpl ⟨[.dead, .dead, .ptr 0 [], .dead, .ptr 1 [], .dead, .dead, .pl (.sl (.arr 4 (.int .u64))), .pl (.int .i64), .pl (.int .i64), .dead, .dead, .dead, .dead, .dead, .dead, .dead, .dead, .dead, .dead], [.box (.arr 4 (.int .u64)) (.pl (.arr 4 (.int .u64))), .box (.arr 4 (.int .u64)) (.pl (.arr 4 (.int .u64)))]⟩) | _, _ => none
theorem ev38 : ∀ x, evalFn env38 ann38 38 ⟨[.pl (.arr 4 (.int .u64)), .pl (.sl (.arr 4 (.int .u64)))], []⟩ ⟨[.pl (.arr 4 (.int .u64))], []⟩ 60 K0 x = uint256_Min x := by intro x; kernel_rfl
theorem ok38 : ConOk Try.prog 38 uint256_MinC := con_of_ev (E := env38) (envOk tysOk eqsOk (show HowsOk Try.prog [(21, .con uint256_CmpC)] from (And.intro ok21 trivial)) follows) noOddP fun x _ h => ⟨ann38, 60, K0, (ev38 x).trans h⟩
/-- pontage/txfee.GasPrice -/
noncomputable def txfee_GasPriceC : Con := ⟨_, _, txfee_GasPrice⟩
noncomputable def env40 : Env := mkEnv Try.prog tys eqs [(38, .con uint256_MinC), (61, .con uint256_AddC), (78, .con uint256_SubC)]
def ann40 : Anns := fun _ _ => none
theorem ev40 : ∀ x, evalFn env40 ann40 40 ⟨[.pl (.cons (.int .u64) (.cons (.int .u64) (.cons (.int .u64) (.cons (.arr 4 (.int .u64)) (.cons (.int .u64) (.cons (.arr 4 (.int .u64)) (.cons (.arr 4 (.int .u64)) (.cons (.int .u64) (.cons (.sl (.int .u8)) .nil))))))))), .pl (.arr 4 (.int .u64))], []⟩ ⟨[.pl (.arr 4 (.int .u64)), .pl (.int .i64)], []⟩ 60 K0 x = txfee_GasPrice x := by intro x; kernel_rfl
theorem ok40 : ConOk Try.prog 40 txfee_GasPriceC := con_of_ev (E := env40) (envOk tysOk eqsOk (show HowsOk Try.prog [(38, .con uint256_MinC), (61, .con uint256_AddC), (78, .con uint256_SubC)] from (And.intro ok38 (And.intro ok61 (And.intro ok78 trivial)))) follows) noOddP fun x _ h => ⟨ann40, 60, K0, (ev40 x).trans h⟩
/-- pontage/pontagelaw23.awake -/
noncomputable def pontagelaw23_awakeC : Con := ⟨_, _, pontagelaw23_awake⟩
noncomputable def env29 : Env := mkEnv Try.prog tys eqs [(40, .con txfee_GasPriceC)]
def ann29 : Anns := fun _ _ => none
theorem ev29 : ∀ x, evalFn env29 ann29 29 ⟨[], []⟩ ⟨[.pl .bool], []⟩ 60 K0 x = pontagelaw23_awake x := by intro x; kernel_rfl
theorem ok29 : ConOk Try.prog 29 pontagelaw23_awakeC := con_of_ev (E := env29) (envOk tysOk eqsOk (show HowsOk Try.prog [(40, .con txfee_GasPriceC)] from (And.intro ok40 trivial)) follows) noOddP fun x _ h => ⟨ann29, 60, K0, (ev29 x).trans h⟩
/-- pontage/pontagelaw0.Mod -/
noncomputable def pontagelaw0_ModC : Con := ⟨_, _, pontagelaw0_Mod⟩
noncomputable def env67 : Env := mkEnv Try.prog tys eqs []
def ann67 : Anns := fun _ _ => none
theorem ev67 : ∀ x, evalFn env67 ann67 67 ⟨[.pl (.int .i64), .pl (.int .i64)], []⟩ ⟨[.pl (.int .i64)], []⟩ 60 K0 x = pontagelaw0_Mod x := by intro x; kernel_rfl
theorem ok67 : ConOk Try.prog 67 pontagelaw0_ModC := con_of_ev (E := env67) (envOk tysOk eqsOk (show HowsOk Try.prog [] from trivial) follows) noOddP fun x _ h => ⟨ann67, 60, K0, (ev67 x).trans h⟩
/-- pontage/pontagelaw0.RepetitiveBytes -/
noncomputable def pontagelaw0_RepetitiveBytesC : Con := ⟨_, _, pontagelaw0_RepetitiveBytes⟩
noncomputable def env66 : Env := mkEnv Try.prog tys eqs [(67, .con pontagelaw0_ModC)]
def ann66 : Anns := fun p c => match p, c with | [1000000, 66], 15 => some (.join ⟨[.pl (.sl (.int .i64)), .dead, .dead, .whole 0, .pl (.int .i64), .pl (.int .i64), .pl (.int .i64), .dead, .dead, .dead, .dead, .dead, .dead, .dead, .dead, .dead, .dead, .dead, .dead, .dead, .dead, .dead, .dead, .dead, .dead, .dead, .dead, .pl (.int .i64), .dead, .dead, .dead, .dead, .dead, .dead, .dead, .dead, .dead, .dead, .dead, .dead, .dead, .dead, .dead, .dead, .dead, .dead, .pl .bool, .dead, .dead, .dead, .dead, .dead, .dead, .dead, .dead, .dead, .dead, .dead, .dead, .dead, .dead, .dead, .dead, .dead, .dead, .dead, .dead, .dead, .dead, .dead, .dead, .dead, .dead, .dead, .dead, .dead, .dead, .dead, .dead, .dead, .dead, .dead, .dead, .dead, .dead, .dead, .dead, .dead, .dead, .dead, .dead, .dead, .dead, .dead, .dead, .dead, .dead], [.row (.int .u8)]⟩) | [1000000, 66], 22 => some (.join ⟨[.pl (.sl (.int .i64)), .dead, .dead, .whole 0, .pl (.int .i64), .pl (.int .i64), .pl (.int .i64), .dead, .dead, .dead, .dead, .dead, .dead, .dead, .dead, .dead, .dead, .dead, .dead, .dead, .dead, .dead, .dead, .dead, .dead, .dead, .dead, .dead, .dead, .dead, .dead, .dead, .dead, .dead, .dead, .dead, .dead, .dead, .dead, .dead, .dead, .dead, .dead, .dead, .dead, .dead, .dead, .dead, .dead, .dead, .dead, .dead, .dead, .dead, .dead, .dead, .dead, .dead, .dead, .dead, .dead, .dead, .pl .bool, .dead, .dead, .dead, .dead, .dead, .dead, .dead, .dead, .dead, .dead, .dead, .dead, .dead, .dead, .dead, .dead, .dead, .dead, .dead, .dead, .dead, .dead, .dead, .dead, .dead, .dead, .dead, .dead, .dead, .dead, .dead, .dead, .dead, .dead], [.row (.int .u8)]⟩) | [1000000, 66], 25 => some (.join ⟨[.pl (.sl (.int .i64)), .dead, .dead, .whole 0, .pl (.int .i64), .dead, .pl (.int .i64), .dead, .pl (.int .i64), .dead, .dead, .dead, .dead, .dead, .dead, .dead, .dead, .dead, .dead, .dead, .dead, .dead, .dead, .dead, .dead, .dead, .dead, .dead, .dead, .dead, .dead, .dead, .dead, .dead, .dead, .dead, .dead, .dead, .dead, .dead, .dead, .dead, .dead, .dead, .dead, .dead, .dead, .dead, .dead, .dead, .dead, .dead, .dead, .dead, .dead, .dead, .dead, .dead, .dead, .dead, .dead, .dead, .dead, .dead, .dead, .dead, .dead, .dead, .dead, .dead, .dead, .dead, .dead, .dead, .dead, .dead, .dead, .dead, .dead, .dead, .dead, .dead, .dead, .dead, .dead, .dead, .dead, .dead, .dead, .dead, .dead, .dead, .dead, .dead, .dead, .dead, .dead], [.row (.int .u8)]⟩) | [1000000, 66], 28 => some (.join ⟨[.pl (.sl (.int .i64)), .dead, .dead, .whole 0, .pl (.int .i64), .dead, .pl (.int .i64), .dead, .pl (.int .i64), .pl (.int .i64), .dead, .dead, .dead, .dead, .dead, .dead, .dead, .dead, .dead, .dead, .dead, .dead, .dead, .dead, .dead, .dead, .dead, .dead, .dead, .dead, .dead, .dead, .dead, .dead, .dead, .dead, .dead, .dead, .dead, .dead, .dead, .dead, .dead, .dead, .dead, .dead, .dead, .dead, .dead, .dead, .dead, .dead, .dead, .dead, .dead, .dead, .dead, .dead, .dead, .dead, .dead, .dead, .dead, .dead, .dead, .dead, .dead, .dead, .dead, .dead, .dead, .dead, .dead, .dead, .dead, .dead, .dead, .dead, .pl (.int .i64), .pl (.int .i64), .pl (.int .i64), .whole 0, .pl (.int .i64), .pl .bool, .dead, .dead, .dead, .dead, .dead, .dead, .dead, .dead, .dead, .dead, .dead, .dead, .dead], [.row (.int .u8)]⟩) | [66], 0 => some (.tmpl ⟨[.pl (.sl (.int .i64)), .dead, .dead, .whole 0, .pl (.int .i64), .dead, .dead, .dead, .dead, .dead, .dead, .dead, .dead, .dead, .dead, .dead, .dead, .dead, .dead, .dead, .dead, .dead, .dead, .dead, .dead, .dead, .dead, .dead, .dead, .dead, .dead, .dead, .dead, .dead, .dead, .dead, .dead, .dead, .dead, .dead, .dead, .dead, .dead, .dead, .dead, .dead, .dead, .dead, .dead, .dead, .dead, .dead, .dead, .dead, .dead, .dead, .dead, .dead, .dead, .dead, .dead, .dead, .dead, .dead, .dead, .dead, .dead, .dead, .dead, .dead, .dead, .dead, .dead, .dead, .dead, .dead, .dead, .dead, .dead, .dead, .dead, .dead, .dead, .dead, .dead, .dead, .dead, .dead, .dead, .dead, .dead, .dead, .dead, .dead, .dead, .dead, .dead], [.row (.int .u8)]⟩) | [66], 3 => some (.tmpl ⟨[.pl (.sl (.int .i64)), .dead, .dead, .whole 0, .pl (.int .i64), .pl (.int .i64), .pl (.int .i64), .dead, .dead, .dead, .pl (.int .i64), .dead, .dead, .dead, .dead, .dead, .dead, .dead, .dead, .dead, .dead, .dead, .dead, .dead, .dead, .dead, .dead, .dead, .dead, .dead, .dead, .dead, .dead, .dead, .dead, .dead, .dead, .dead, .dead, .dead, .dead, .dead, .dead, .dead, .dead, .dead, .dead, .dead, .dead, .dead, .dead, .dead, .dead, .dead, .dead, .dead, .dead, .dead, .dead, .dead, .dead, .dead, .dead, .dead, .dead, .dead, .dead, .dead, .dead, .dead, .dead, .dead, .dead, .dead, .dead, .dead, .dead, .dead, .dead, .dead, .dead, .dead, .dead, .dead, .dead, .dead, .dead, .dead, .dead, .dead, .dead, .dead, .dead, .dead, .dead, .dead, .dead], [.row (.int .u8)]⟩) | [66], 5 => some (.tmpl ⟨[.pl (.sl (.int .i64)), .dead, .dead, .whole 0, .pl (.int .i64), .pl (.int .i64), .pl (.int .i64), .pl (.int .i64), .dead, .dead, .dead, .dead, .dead, .dead, .dead, .dead, .dead, .dead, .dead, .dead, .dead, .dead, .dead, .dead, .dead, .dead, .dead, .dead, .dead, .dead, .dead, .dead, .dead, .dead, .dead, .dead, .dead, .dead, .dead, .dead, .dead, .dead, .dead, .dead, .dead, .dead, .dead, .dead, .dead, .dead, .dead, .dead, .dead, .dead, .dead, .dead, .dead, .dead, .dead, .dead, .dead, .dead, .dead, .dead, .dead, .dead, .dead, .dead, .dead, .dead, .dead, .dead, .dead, .dead, .dead, .dead, .dead, .dead, .dead, .dead, .dead, .dead, .dead, .dead, .dead, .dead, .dead, .dead, .dead, .dead, .dead, .dead, .dead, .dead, .dead, .dead, .dead], [.row (.int .u8)]⟩) | [66], 7 => some (.tmpl ⟨[.pl (.sl (.int .i64)), .dead, .dead, .whole 0, .pl (.int .i64), .dead, .pl (.int .i64), .dead, .pl (.int .i64), .pl (.int .i64), .dead, .dead, .dead, .dead, .dead, .dead, .dead, .dead, .dead, .dead, .dead, .dead, .dead, .dead, .dead, .dead, .dead, .dead, .dead, .dead, .dead, .dead, .dead, .dead, .dead, .dead, .dead, .dead, .dead, .dead, .dead, .dead, .dead, .dead, .dead, .dead, .dead, .dead, .dead, .dead, .dead, .dead, .dead, .dead, .dead, .dead, .dead, .dead, .dead, .dead, .dead, .dead, .dead, .dead, .dead, .dead, .dead, .dead, .dead, .dead, .dead, .dead, .dead, .dead, .dead, .dead, .dead, .dead, .dead, .dead, .dead, .dead, .dead, .dead, .dead, .dead, .dead, .dead, .dead, .dead, .dead, .dead, .dead, .dead, .dead, .dead, .dead], [.row (.int .u8)]⟩) | _, _ => none
theorem ev66 : ∀ x, evalFn env66 ann66 66 ⟨[.pl (.sl (.int .i64))], []⟩ ⟨[.pl (.sl (.int .u8))], []⟩ 60 K0 x = pontagelaw0_RepetitiveBytes x := by intro x; kernel_rfl
theorem ok66 : ConOk Try.prog 66 pontagelaw0_RepetitiveBytesC := con_of_ev (E := env66) (envOk tysOk eqsOk (show HowsOk Try.prog [(67, .con pontagelaw0_ModC)] from (And.intro ok67 trivial)) follows) noOddP fun x _ h => ⟨ann66, 60, K0, (ev66 x).trans h⟩
/-- pontage/pontagelaw0.EdgeUint256 -/
noncomputable def pontagelaw0_EdgeUint256C : Con := ⟨_, _, pontagelaw0_EdgeUint256⟩
noncomputable def env68 : Env := mkEnv Try.prog tys eqs [(67, .con pontagelaw0_ModC)]
def ann68 : Anns := fun _ _ => none
theorem ev68 : ∀ x, evalFn env68 ann68 68 ⟨[.pl (.int .u64), .pl (.int .u64), .pl (.int .i64)], []⟩ ⟨[.pl (.arr 4 (.int .u64))], []⟩ 60 K0 x = pontagelaw0_EdgeUint256 x := by intro x; kernel_rfl
theorem ok68 : ConOk Try.prog 68 pontagelaw0_EdgeUint256C := con_of_ev (E := env68) (envOk tysOk eqsOk (show HowsOk Try.prog [(67, .con pontagelaw0_ModC)] from (And.intro ok67 trivial)) follows) noOddP fun x _ h => ⟨ann68, 60, K0, (ev68 x).trans h⟩
/-- pontage/pontagelaw23.build -/
noncomputable def pontagelaw23_buildC : Con := ⟨_, _, pontagelaw23_build⟩
noncomputable def env30 : Env := mkEnv Try.prog tys eqs [(39, .con uint256_SaturatingAddC), (66, .con pontagelaw0_RepetitiveBytesC), (67, .con pontagelaw0_ModC), (68, .con pontagelaw0_EdgeUint256C)]
def ann30 : Anns := fun p c => match p, c with | [1000000, 30], 13 => some (.join ⟨[.dead, .ptr 0 [], .ptr 1 [], .ptr 2 [], .ptr 3 [], .ptr 4 [], .ptr 5 [], .dead, .dead, .dead, .dead, .dead, .dead, .dead, .dead, .dead, .dead, .dead, .dead, .dead, .dead, .dead, .dead, .dead, .dead, .dead, .dead, .dead, .dead, .dead, .dead, .dead, .dead, .dead, .dead, .dead, .dead, .dead, .dead, .dead, .dead, .dead, .dead, .dead, .dead, .dead, .dead, .dead, .dead, .dead, .dead, .dead, .dead, .dead, .dead, .dead, .dead, .dead, .dead, .dead, .dead, .dead, .dead, .dead, .dead, .dead, .dead, .dead, .dead, .dead, .dead, .dead, .dead, .dead, .dead, .dead, .dead, .dead, .dead, .dead, .dead, .dead, .dead, .dead, .dead, .dead, .dead, .dead, .dead, .dead, .dead, .dead, .dead, .dead, .dead, .dead, .dead, .dead, .dead, .dead, .dead, .dead, .dead, .dead, .dead, .dead, .dead, .dead, .dead, .dead, .dead, .dead, .dead, .dead, .dead, .dead], [.box (.cons (.int .u64) (.cons (.int .u64) (.cons (.int .u64) (.cons (.int .u64) (.cons (.int .u64) (.cons (.int .u64) (.cons (.int .i64) (.cons (.sl (.int .i64)) .nil)))))))) (.pl (.cons (.int .u64) (.cons (.int .u64) (.cons (.int .u64) (.cons (.int .u64) (.cons (.int .u64) (.cons (.int .u64) (.cons (.int .i64) (.cons (.sl (.int .i64)) .nil))))))))), .box (.cons (.int .u64) (.cons (.int .u64) (.cons (.int .u64) (.cons (.arr 4 (.int .u64)) (.cons (.int .u64) (.cons (.arr 4 (.int .u64)) (.cons (.arr 4 (.int .u64)) (.cons (.int .u64) (.cons (.sl (.int .u8)) .nil))))))))) (.pl (.cons (.int .u64) (.cons (.int .u64) (.cons (.int .u64) (.cons (.arr 4 (.int .u64)) (.cons (.int .u64) (.cons (.arr 4 (.int .u64)) (.cons (.arr 4 (.int .u64)) (.cons (.int .u64) (.cons (.sl (.int .u8)) .nil)))))))))), .box (.arr 4 (.int .u64)) (.pl (.arr 4 (.int .u64))), .box (.arr 4 (.int .u64)) (.pl (.arr 4 (.int .u64))), .box (.arr 4 (.int .u64)) (.pl (.arr 4 (.int .u64))), .box (.cons (.int .u64) (.cons (.int .u64) (.cons (.int .u64) (.cons (.arr 4 (.int .u64)) (.cons (.int .u64) (.cons (.arr 4 (.int .u64)) (.cons (.arr 4 (.int .u64)) (.cons (.int .u64) (.cons (.sl (.int .u8)) .nil))))))))) (.pl (.cons (.int .u64) (.cons (.int .u64) (.cons (.int .u64) (.cons (.arr 4 (.int .u64)) (.cons (.int .u64) (.cons (.arr 4 (.int .u64)) (.cons (.arr 4 (.int .u64)) (.cons (.int .u64) (.cons (.sl (.int .u8)) .nil))))))))))]⟩) | _, _ => none
theorem ev30 : ∀ x, evalFn env30 ann30 30 ⟨[.pl (.cons (.int .u64) (.cons (.int .u64) (.cons (.int .u64) (.cons (.int .u64) (.cons (.int .u64) (.cons (.int .u64) (.cons (.int .i64) (.cons (.sl (.int .i64)) .nil))))))))], []⟩ ⟨[.pl (.cons (.int .u64) (.cons (.int .u64) (.cons (.int .u64) (.cons (.arr 4 (.int .u64)) (.cons (.int .u64) (.cons (.arr 4 (.int .u64)) (.cons (.arr 4 (.int .u64)) (.cons (.int .u64) (.cons (.sl (.int .u8)) .nil))))))))), .pl (.arr 4 (.int .u64)), .pl (.arr 4 (.int .u64))], []⟩ 60 K0 x = pontagelaw23_build x := by intro x; kernel_rfl
theorem ok30 : ConOk Try.prog 30 pontagelaw23_buildC := con_of_ev (E := env30) (envOk tysOk eqsOk (show HowsOk Try.prog [(39, .con uint256_SaturatingAddC), (66, .con pontagelaw0_RepetitiveBytesC), (67, .con pontagelaw0_ModC), (68, .con pontagelaw0_EdgeUint256C)] from (And.intro ok39 (And.intro ok66 (And.intro ok67 (And.intro ok68 trivial))))) follows) noOddP fun x _ h => ⟨ann30, 60, K0, (ev30 x).trans h⟩
/-- pontage/lz.matchLen -/
noncomputable def lz_matchLenC : Con := ⟨_, _, lz_matchLen⟩
noncomputable def env105 : Env := mkEnv Try.prog tys eqs []
def ann105 : Anns := fun p c => match p, c with | [105], 0 => some (.tmpl ⟨[.pl (.sl (.int .u8)), .pl (.int .i64), .pl (.int .i64), .pl (.int .i64), .dead, .dead, .dead, .dead, .dead, .pl (.int .i64), .dead, .dead, .dead, .dead, .dead, .dead, .dead, .dead, .dead, .dead, .dead, .dead, .dead, .dead, .dead, .dead, .dead, .dead, .dead, .dead, .dead, .dead, .dead], []⟩) | _, _ => none
theorem ev105 : ∀ x, evalFn env105 ann105 105 ⟨[.pl (.sl (.int .u8)), .pl (.int .i64), .pl (.int .i64), .pl (.int .i64)], []⟩ ⟨[.pl (.int .i64)], []⟩ 60 K0 x = lz_matchLen x := by intro x; kernel_rfl
theorem ok105 : ConOk Try.prog 105 lz_matchLenC := con_of_ev (E := env105) (envOk tysOk eqsOk (show HowsOk Try.prog [] from trivial) follows) noOddP fun x _ h => ⟨ann105, 60, K0, (ev105 x).trans h⟩
/-- pontage/lz.longestMatch -/
noncomputable def lz_longestMatchC : Con := ⟨_, _, lz_longestMatch⟩
noncomputable def env94 : Env := mkEnv Try.prog tys eqs [(105, .con lz_matchLenC)]
def ann94 : Anns := fun p c => match p, c with | [1000000, 94], 6 => some (.join ⟨[.pl (.sl (.int .u8)), .pl (.int .i64), .dead, .dead, .pl (.int .i64), .pl (.int .i64), .pl (.int .i64), .pl (.int .i64), .dead, .dead, .dead, .dead, .dead, .dead, .dead, .dead, .dead, .dead, .dead, .pl (.int .i64), .pl (.int .i64), .pl .bool, .dead, .dead, .dead, .dead, .dead, .dead, .dead, .dead, .dead, .dead, .dead, .dead, .dead, .dead, .dead], []⟩) | [94], 0 => some (.tmpl ⟨[.pl (.sl (.int .u8)), .pl (.int .i64), .dead, .dead, .pl (.int .i64), .pl (.int .i64), .pl (.int .i64), .pl (.int .i64), .dead, .dead, .dead, .dead, .dead, .dead, .dead, .dead, .dead, .dead, .dead, .dead, .dead, .dead, .dead, .dead, .dead, .dead, .dead, .dead, .dead, .dead, .dead, .dead, .dead, .dead, .dead, .dead, .dead], []⟩) | _, _ => none
theorem ev94 : ∀ x, evalFn env94 ann94 94 ⟨[.pl (.sl (.int .u8)), .pl (.int .i64)], []⟩ ⟨[.pl (.int .i64), .pl (.int .i64)], []⟩ 60 K0 x = lz_longestMatch x := by intro x; kernel_rfl
theorem ok94 : ConOk Try.prog 94 lz_longestMatchC := con_of_ev (E := env94) (envOk tysOk eqsOk (show HowsOk Try.prog [(105, .con lz_matchLenC)] from (And.intro ok105 trivial)) follows) noOddP fun x _ h => ⟨ann94, 60, K0, (ev94 x).trans h⟩
/-- pontage/lz.Compress -/
noncomputable def lz_CompressC : Con := ⟨_, _, lz_Compress⟩
noncomputable def env77 : Env := mkEnv Try.prog tys eqs [(94, .con lz_longestMatchC), (95, .inl)]
def ann77 : Anns := fun p c => match p, c with | [77], 0 => some (.tmpl ⟨[.pl (.sl (.int .u8)), .dead, .dead, .whole 0, .pl (.int .i64), .pl (.int .i64), .dead, .dead, .dead, .dead, .dead, .dead, .dead, .dead, .dead, .dead, .dead, .dead, .dead, .dead, .dead, .dead, .dead, .dead, .dead, .dead, .dead, .dead, .dead, .dead, .dead, .dead, .dead, .dead, .dead, .dead, .dead, .dead, .dead, .dead, .dead, .dead, .dead, .dead, .dead, .dead, .dead, .dead, .dead, .dead], [.row (.int .u8)]⟩) | [95, 11, 4, 77], 0 => some (.tmpl ⟨[.whole 0, .pl (.sl (.int .u8)), .dead, .dead, .dead, .dead, .dead, .dead, .dead, .dead, .dead, .dead, .dead, .dead, .dead, .dead, .dead, .dead, .dead, .dead, .dead, .dead, .dead, .dead, .dead, .dead, .dead, .dead, .dead, .dead, .dead, .dead, .dead, .dead, .dead, .dead, .dead, .dead, .dead, .dead, .dead, .dead, .dead, .dead, .dead, .dead, .dead, .dead, .dead, .dead, .dead, .dead, .dead, .dead, .dead, .dead, .dead, .dead, .dead, .dead, .dead, .dead, .dead, .dead, .dead, .dead, .dead, .dead, .dead, .dead, .dead, .dead, .dead, .dead, .dead], [.row (.int .u8)]⟩) | [95, 7, 5, 77], 0 => some (.tmpl ⟨[.whole 0, .pl (.sl (.int .u8)), .dead, .dead, .dead, .dead, .dead, .dead, .dead, .dead, .dead, .dead, .dead, .dead, .dead, .dead, .dead, .dead, .dead, .dead, .dead, .dead, .dead, .dead, .dead, .pl (.sl (.int .u8)), .dead, .dead, .dead, .dead, .pl (.int .i64), .pl (.int .i64), .pl (.int .i64), .dead, .dead, .dead, .dead, .dead, .dead, .dead, .dead, .dead, .dead, .dead, .dead, .dead, .dead, .dead, .dead, .dead, .dead, .dead, .dead, .dead, .dead, .dead, .dead, .dead, .dead, .dead, .dead, .dead, .dead, .dead, .dead, .dead, .dead, .dead, .dead, .dead, .dead, .dead, .dead, .dead, .dead], [.row (.int .u8)]⟩) | _, _ => none
theorem ev77 : ∀ x, evalFn env77 ann77 77 ⟨[.pl (.sl (.int .u8))], []⟩ ⟨[.pl (.sl (.int .u8))], []⟩ 90 K0 x = lz_Compress x := by intro x; kernel_rfl
theorem ok77 : ConOk Try.prog 77 lz_CompressC := con_of_ev (E := env77) (envOk tysOk eqsOk (show HowsOk Try.prog [(94, .con lz_longestMatchC), (95, .inl)] from (And.intro ok94 trivial)) follows) noOddP fun x _ h => ⟨ann77, 90, K0, (ev77 x).trans h⟩
/-- pontage/sizeest.Units -/
noncomputable def sizeest_UnitsC : Con := ⟨_, _, sizeest_Units⟩
noncomputable def env33 : Env := mkEnv Try.prog tys eqs [(77, .con lz_CompressC)]
def ann33 : Anns := fun _ _ => none
theorem ev33 : ∀ x, evalFn env33 ann33 33 ⟨[.pl (.sl (.int .u8)), .pl (.int .u64), .pl (.int .u64)], []⟩ ⟨[.pl (.int .u64), .pl (.int .i64)], []⟩ 60 K0 x = sizeest_Units x := by intro x; kernel_rfl
theorem ok33 : ConOk Try.prog 33 sizeest_UnitsC := con_of_ev (E := env33) (envOk tysOk eqsOk (show HowsOk Try.prog [(77, .con lz_CompressC)] from (And.intro ok77 trivial)) follows) noOddP fun x _ h => ⟨ann33, 60, K0, (ev33 x).trans h⟩
/-- pontage/sizeest.Cost -/
noncomputable def sizeest_CostC : Con := ⟨_, _, sizeest_Cost⟩
noncomputable def env34 : Env := mkEnv Try.prog tys eqs [(42, .con uint256_MulC), (45, .con uint256_FromUint64C)]
def ann34 : Anns := fun _ _ => none
theorem ev34 : ∀ x, evalFn env34 ann34 34 ⟨[.pl (.int .u64), .pl (.arr 4 (.int .u64))], []⟩ ⟨[.pl (.arr 4 (.int .u64)), .pl (.int .i64)], []⟩ 60 K0 x = sizeest_Cost x := by intro x; kernel_rfl
theorem ok34 : ConOk Try.prog 34 sizeest_CostC := con_of_ev (E := env34) (envOk tysOk eqsOk (show HowsOk Try.prog [(42, .con uint256_MulC), (45, .con uint256_FromUint64C)] from (And.intro ok42 (And.intro ok45 trivial))) follows) noOddP fun x _ h => ⟨ann34, 60, K0, (ev34 x).trans h⟩
/-- pontage/uint256.Uint64 -/
noncomputable def uint256_Uint64C : Con := ⟨_, _, uint256_Uint64⟩
noncomputable def env91 : Env := mkEnv Try.prog tys eqs []
def ann91 : Anns := fun _ _ => none
theorem ev91 : ∀ x, evalFn env91 ann91 91 ⟨[.pl (.arr 4 (.int .u64))], []⟩ ⟨[.pl (.int .u64), .pl .bool], []⟩ 60 K0 x = uint256_Uint64 x := by intro x; kernel_rfl
theorem ok91 : ConOk Try.prog 91 uint256_Uint64C := con_of_ev (E := env91) (envOk tysOk eqsOk (show HowsOk Try.prog [] from trivial) follows) noOddP fun x _ h => ⟨ann91, 60, K0, (ev91 x).trans h⟩
/-- pontage/txfee.meter -/
noncomputable def txfee_meterC : Con := ⟨_, _, txfee_meter⟩
noncomputable def env69 : Env := mkEnv Try.prog tys eqs [(33, .con sizeest_UnitsC), (34, .con sizeest_CostC), (65, .con muldiv_DivModC), (91, .con uint256_Uint64C)]
def ann69 : Anns := fun p c => match p, c with | [1000000, 69], 14 => some (.join ⟨[.dead, .dead, .dead, .dead, .ptr 0 [], .dead, .dead, .dead, .ptr 1 [], .dead, .pl (.int .u64), .dead, .dead, .dead, .dead, .pl (.int .u64), .dead, .dead, .dead, .dead, .dead, .dead, .dead, .dead, .dead, .dead, .dead, .dead, .dead, .dead, .dead, .dead, .dead, .dead, .dead, .dead, .dead, .dead, .dead, .dead, .dead, .dead, .dead, .dead, .dead, .dead, .dead, .dead, .dead, .dead, .dead, .dead, .dead, .dead, .dead, .dead, .dead, .dead, .dead, .dead, .dead, .dead, .dead, .dead, .dead, .dead, .dead, .dead, .dead, .dead, .dead, .dead, .dead, .dead, .dead, .dead, .dead, .dead, .dead, .dead, .dead, .dead, .dead, .dead, .dead], [.box (.cons (.int .u64) (.cons (.int .u64) (.cons (.int .u64) (.cons (.arr 4 (.int .u64)) (.cons (.int .u64) (.cons (.arr 4 (.int .u64)) (.cons (.arr 4 (.int .u64)) (.cons (.int .u64) (.cons (.sl (.int .u8)) .nil))))))))) (.pl (.cons (.int .u64) (.cons (.int .u64) (.cons (.int .u64) (.cons (.arr 4 (.int .u64)) (.cons (.int .u64) (.cons (.arr 4 (.int .u64)) (.cons (.arr 4 (.int .u64)) (.cons (.int .u64) (.cons (.sl (.int .u8)) .nil)))))))))), .box (.cons (.int .u64) (.cons (.int .u64) (.cons (.int .u64) (.cons (.int .u64) (.cons .bool (.cons (.arr 4 (.int .u64)) (.cons (.arr 4 (.int .u64)) (.cons (.arr 4 (.int .u64)) (.cons (.arr 4 (.int .u64)) (.cons (.arr 4 (.int .u64)) .nil)))))))))) (.pl (.cons (.int .u64) (.cons (.int .u64) (.cons (.int .u64) (.cons (.int .u64) (.cons .bool (.cons (.arr 4 (.int .u64)) (.cons (.arr 4 (.int .u64)) (.cons (.arr 4 (.int .u64)) (.cons (.arr 4 (.int .u64)) (.cons (.arr 4 (.int .u64)) .nil)))))))))))]⟩) | _, _ => none
theorem ev69 : ∀ x, evalFn env69 ann69 69 ⟨[.pl (.cons (.int .u64) (.cons (.int .u64) (.cons (.int .u64) (.cons (.arr 4 (.int .u64)) (.cons (.int .u64) (.cons (.arr 4 (.int .u64)) (.cons (.arr 4 (.int .u64)) (.cons (.int .u64) (.cons (.sl (.int .u8)) .nil))))))))), .pl (.arr 4 (.int .u64)), .pl (.arr 4 (.int .u64)), .pl (.cons (.int .u64) (.cons (.int .u64) (.cons (.int .u64) (.cons (.arr 4 (.int .u64)) (.cons (.int .u64) (.cons (.arr 4 (.int .u64)) (.cons (.int .u64) (.cons (.arr 4 (.int .u64)) (.cons (.int .u64) (.cons (.int .u64) (.cons (.int .u64) (.cons (.int .u64) .nil))))))))))))], []⟩ ⟨[.pl (.cons (.int .u64) (.cons (.int .u64) (.cons (.int .u64) (.cons (.int .u64) (.cons .bool (.cons (.arr 4 (.int .u64)) (.cons (.arr 4 (.int .u64)) (.cons (.arr 4 (.int .u64)) (.cons (.arr 4 (.int .u64)) (.cons (.arr 4 (.int .u64)) .nil)))))))))), .pl (.int .i64)], []⟩ 60 K0 x = txfee_meter x := by intro x; kernel_rfl
theorem ok69 : ConOk Try.prog 69 txfee_meterC := con_of_ev (E := env69) (envOk tysOk eqsOk (show HowsOk Try.prog [(33, .con sizeest_UnitsC), (34, .con sizeest_CostC), (65, .con muldiv_DivModC), (91, .con uint256_Uint64C)] from (And.intro ok33 (And.intro ok34 (And.intro ok65 (And.intro ok91 trivial))))) follows) noOddP fun x _ h => ⟨ann69, 60, K0, (ev69 x).trans h⟩
/-- pontage/muldiv.Mul -/
noncomputable def muldiv_MulC : Con := ⟨_, _, muldiv_Mul⟩
noncomputable def env97 : Env := mkEnv Try.prog tys eqs [(81, .con math_bits_Mul64C), (82, .con add64C)]
def ann97 : Anns := fun p c => match p, c with | [97], 0 => some (.tmpl ⟨[.dead, .dead, .ptr 0 [], .ptr 1 [], .ptr 2 [], .ptr 3 [], .ptr 4 [], .dead, .dead, .dead, .dead, .dead, .dead, .pl (.int .i64), .dead, .dead, .dead, .dead, .dead, .dead, .dead, .dead, .dead, .dead, .dead, .dead, .dead, .dead, .dead, .dead, .dead, .dead, .dead, .dead, .dead, .dead, .dead, .dead, .dead, .dead, .dead, .dead, .dead, .dead, .dead, .dead, .dead, .dead, .dead, .dead, .dead, .dead, .dead, .dead, .dead, .dead, .dead, .dead, .dead, .dead, .dead, .dead, .dead, .dead, .dead, .dead, .dead, .dead, .dead], [.box (.arr 4 (.int .u64)) (.pl (.arr 4 (.int .u64))), .box (.arr 4 (.int .u64)) (.pl (.arr 4 (.int .u64))), .box (.arr 4 (.int .u64)) (.pl (.arr 4 (.int .u64))), .box (.arr 4 (.int .u64)) (.pl (.arr 4 (.int .u64))), .box (.arr 8 (.int .u64)) (.pl (.arr 8 (.int .u64)))]⟩) | [97], 2 => some (.tmpl ⟨[.dead, .dead, .ptr 0 [], .ptr 1 [], .ptr 2 [], .ptr 3 [], .ptr 4 [], .pl (.int .i64), .pl (.int .u64), .dead, .dead, .dead, .dead, .pl (.int .i64), .dead, .dead, .pl (.int .i64), .dead, .dead, .dead, .dead, .dead, .dead, .dead, .dead, .dead, .dead, .dead, .dead, .dead, .dead, .dead, .dead, .dead, .dead, .dead, .dead, .dead, .dead, .dead, .dead, .dead, .dead, .dead, .dead, .dead, .dead, .dead, .dead, .dead, .dead, .dead, .dead, .dead, .dead, .dead, .dead, .dead, .dead, .dead, .dead, .dead, .dead, .dead, .dead, .dead, .dead, .dead, .dead], [.box (.arr 4 (.int .u64)) (.pl (.arr 4 (.int .u64))), .box (.arr 4 (.int .u64)) (.pl (.arr 4 (.int .u64))), .box (.arr 4 (.int .u64)) (.pl (.arr 4 (.int .u64))), .box (.arr 4 (.int .u64)) (.pl (.arr 4 (.int .u64))), .box (.arr 8 (.int .u64)) (.pl (.arr 8 (.int .u64)))]⟩) | _, _ => none
theorem ev97 : ∀ x, evalFn env97 ann97 97 ⟨[.pl (.arr 4 (.int .u64)), .pl (.arr 4 (.int .u64))], []⟩ ⟨[.pl (.arr 4 (.int .u64)), .pl (.arr 4 (.int .u64))], []⟩ 60 K0 x = muldiv_Mul x := by intro x; kernel_rfl
theorem ok97 : ConOk Try.prog 97 muldiv_MulC := con_of_ev (E := env97) (envOk tysOk eqsOk (show HowsOk Try.prog [(81, .con math_bits_Mul64C), (82, .con add64C)] from (And.intro ok81 (And.intro ok82 trivial))) follows) noOddP fun x _ h => ⟨ann97, 60, K0, (ev97 x).trans h⟩
/-- pontage/muldiv.MulDivFloor -/
noncomputable def muldiv_MulDivFloorC : Con := ⟨_, _, muldiv_MulDivFloor⟩
noncomputable def env80 : Env := mkEnv Try.prog tys eqs [(90, .con muldiv_Div512C), (97, .con muldiv_MulC)]
def ann80 : Anns := fun _ _ => none
theorem ev80 : ∀ x, evalFn env80 ann80 80 ⟨[.pl (.arr 4 (.int .u64)), .pl (.arr 4 (.int .u64)), .pl (.arr 4 (.int .u64))], []⟩ ⟨[.pl (.arr 4 (.int .u64)), .pl (.int .i64)], []⟩ 60 K0 x = muldiv_MulDivFloor x := by intro x; kernel_rfl
theorem ok80 : ConOk Try.prog 80 muldiv_MulDivFloorC := con_of_ev (E := env80) (envOk tysOk eqsOk (show HowsOk Try.prog [(90, .con muldiv_Div512C), (97, .con muldiv_MulC)] from (And.intro ok90 (And.intro ok97 trivial))) follows) noOddP fun x _ h => ⟨ann80, 60, K0, (ev80 x).trans h⟩
/-- pontage/bips.Scale -/
noncomputable def bips_ScaleC : Con := ⟨_, _, bips_Scale⟩
noncomputable def env37 : Env := mkEnv Try.prog tys eqs [(45, .con uint256_FromUint64C), (80, .con muldiv_MulDivFloorC)]
def ann37 : Anns := fun _ _ => none
theorem ev37 : ∀ x, evalFn env37 ann37 37 ⟨[.pl (.arr 4 (.int .u64)), .pl (.int .u64)], []⟩ ⟨[.pl (.arr 4 (.int .u64)), .pl (.int .i64)], []⟩ 60 K0 x = bips_Scale x := by intro x; kernel_rfl
theorem ok37 : ConOk Try.prog 37 bips_ScaleC := con_of_ev (E := env37) (envOk tysOk eqsOk (show HowsOk Try.prog [(45, .con uint256_FromUint64C), (80, .con muldiv_MulDivFloorC)] from (And.intro ok45 (And.intro ok80 trivial))) follows) noOddP fun x _ h => ⟨ann37, 60, K0, (ev37 x).trans h⟩
/-- pontage/bips.Split -/
noncomputable def bips_SplitC : Con := ⟨_, _, bips_Split⟩
noncomputable def env92 : Env := mkEnv Try.prog tys eqs [(35, .con uint256_SaturatingSubC), (37, .con bips_ScaleC)]
def ann92 : Anns := fun _ _ => none
theorem ev92 : ∀ x, evalFn env92 ann92 92 ⟨[.pl (.arr 4 (.int .u64)), .pl (.int .u64)], []⟩ ⟨[.pl (.arr 4 (.int .u64)), .pl (.arr 4 (.int .u64)), .pl (.int .i64)], []⟩ 60 K0 x = bips_Split x := by intro x; kernel_rfl
theorem ok92 : ConOk Try.prog 92 bips_SplitC := con_of_ev (E := env92) (envOk tysOk eqsOk (show HowsOk Try.prog [(35, .con uint256_SaturatingSubC), (37, .con bips_ScaleC)] from (And.intro ok35 (And.intro ok37 trivial))) follows) noOddP fun x _ h => ⟨ann92, 60, K0, (ev92 x).trans h⟩
/-- pontage/txfee.distribute -/
noncomputable def txfee_distributeC : Con := ⟨_, _, txfee_distribute⟩
noncomputable def env70 : Env := mkEnv Try.prog tys eqs [(35, .con uint256_SaturatingSubC), (38, .con uint256_MinC), (42, .con uint256_MulC), (45, .con uint256_FromUint64C), (61, .con uint256_AddC), (92, .con bips_SplitC)]
def ann70 : Anns := fun p c => match p, c with | [1000000, 70], 8 => some (.join ⟨[.dead, .dead, .dead, .ptr 0 [], .dead, .ptr 1 [], .ptr 2 [], .dead, .ptr 3 [], .dead, .ptr 4 [], .dead, .ptr 5 [], .dead, .ptr 6 [], .dead, .dead, .dead, .dead, .dead, .dead, .dead, .dead, .dead, .dead, .dead, .dead, .dead, .dead, .dead, .dead, .dead, .dead, .dead, .dead, .dead, .dead, .dead, .dead, .dead, .dead, .dead, .dead, .dead, .dead, .dead, .dead, .dead, .dead, .dead, .dead, .dead, .dead, .dead, .dead, .dead, .dead, .dead, .dead, .dead, .dead, .dead, .dead, .dead, .dead, .dead, .dead, .dead, .dead, .dead, .dead, .dead, .dead, .dead, .dead, .dead, .dead, .dead, .dead, .dead, .dead, .dead, .dead, .dead, .dead, .dead, .dead, .dead, .dead, .dead, .dead, .dead, .dead, .dead, .dead, .dead, .dead, .dead, .dead, .dead, .dead, .dead, .dead, .dead], [.box (.cons (.int .u64) (.cons (.int .u64) (.cons (.int .u64) (.cons (.int .u64) (.cons .bool (.cons (.arr 4 (.int .u64)) (.cons (.arr 4 (.int .u64)) (.cons (.arr 4 (.int .u64)) (.cons (.arr 4 (.int .u64)) (.cons (.arr 4 (.int .u64)) .nil)))))))))) (.pl (.cons (.int .u64) (.cons (.int .u64) (.cons (.int .u64) (.cons (.int .u64) (.cons .bool (.cons (.arr 4 (.int .u64)) (.cons (.arr 4 (.int .u64)) (.cons (.arr 4 (.int .u64)) (.cons (.arr 4 (.int .u64)) (.cons (.arr 4 (.int .u64)) .nil))))))))))), .box (.cons (.int .u64) (.cons (.int .u64) (.cons (.int .u64) (.cons (.arr 4 (.int .u64)) (.cons (.int .u64) (.cons (.arr 4 (.int .u64)) (.cons (.int .u64) (.cons (.arr 4 (.int .u64)) (.cons (.int .u64) (.cons (.int .u64) (.cons (.int .u64) (.cons (.int .u64) .nil)))))))))))) (.pl (.cons (.int .u64) (.cons (.int .u64) (.cons (.int .u64) (.cons (.arr 4 (.int .u64)) (.cons (.int .u64) (.cons (.arr 4 (.int .u64)) (.cons (.int .u64) (.cons (.arr 4 (.int .u64)) (.cons (.int .u64) (.cons (.int .u64) (.cons (.int .u64) (.cons (.int .u64) .nil))))))))))))), .box (.cons (.int .u64) (.cons (.int .u64) (.cons (.int .u64) (.cons (.int .u64) (.cons .bool (.cons (.arr 4 (.int .u64)) (.cons (.arr 4 (.int .u64)) (.cons (.arr 4 (.int .u64)) (.cons (.arr 4 (.int .u64)) (.cons (.arr 4 (.int .u64)) .nil)))))))))) (.pl (.cons (.int .u64) (.cons (.int .u64) (.cons (.int .u64) (.cons (.int .u64) (.cons .bool (.cons (.arr 4 (.int .u64)) (.cons (.arr 4 (.int .u64)) (.cons (.arr 4 (.int .u64)) (.cons (.arr 4 (.int .u64)) (.cons (.arr 4 (.int .u64)) .nil))))))))))), .box (.arr 4 (.int .u64)) (.pl (.arr 4 (.int .u64))), .box (.arr 4 (.int .u64)) (.pl (.arr 4 (.int .u64))), .box (.arr 4 (.int .u64)) (.pl (.arr 4 (.int .u64))), .box (.arr 4 (.int .u64)) (.pl (.arr 4 (.int .u64)))]⟩) | _, _ => none
theorem ev70 : ∀ x, evalFn env70 ann70 70 ⟨[.pl (.cons (.int .u64) (.cons (.int .u64) (.cons (.int .u64) (.cons (.int .u64) (.cons .bool (.cons (.arr 4 (.int .u64)) (.cons (.arr 4 (.int .u64)) (.cons (.arr 4 (.int .u64)) (.cons (.arr 4 (.int .u64)) (.cons (.arr 4 (.int .u64)) .nil)))))))))), .pl (.arr 4 (.int .u64)), .pl (.cons (.int .u64) (.cons (.int .u64) (.cons (.int .u64) (.cons (.arr 4 (.int .u64)) (.cons (.int .u64) (.cons (.arr 4 (.int .u64)) (.cons (.int .u64) (.cons (.arr 4 (.int .u64)) (.cons (.int .u64) (.cons (.int .u64) (.cons (.int .u64) (.cons (.int .u64) .nil))))))))))))], []⟩ ⟨[.pl (.cons (.int .u64) (.cons (.int .u64) (.cons (.int .u64) (.cons (.int .u64) (.cons .bool (.cons (.arr 4 (.int .u64)) (.cons (.arr 4 (.int .u64)) (.cons (.arr 4 (.int .u64)) (.cons (.arr 4 (.int .u64)) (.cons (.arr 4 (.int .u64)) .nil)))))))))), .pl (.int .i64)], []⟩ 60 K0 x = txfee_distribute x := by intro x; kernel_rfl
theorem ok70 : ConOk Try.prog 70 txfee_distributeC := con_of_ev (E := env70) (envOk tysOk eqsOk (show HowsOk Try.prog [(35, .con uint256_SaturatingSubC), (38, .con uint256_MinC), (42, .con uint256_MulC), (45, .con uint256_FromUint64C), (61, .con uint256_AddC), (92, .con bips_SplitC)] from (And.intro ok35 (And.intro ok38 (And.intro ok42 (And.intro ok45 (And.intro ok61 (And.intro ok92 trivial))))))) follows) noOddP fun x _ h => ⟨ann70, 60, K0, (ev70 x).trans h⟩
/-- pontage/txfee.Compute -/
noncomputable def txfee_ComputeC : Con := ⟨_, _, txfee_Compute⟩
noncomputable def env31 : Env := mkEnv Try.prog tys eqs [(35, .con uint256_SaturatingSubC), (40, .con txfee_GasPriceC), (44, .con params_ValidC), (69, .con txfee_meterC), (70, .con txfee_distributeC)]
def ann31 : Anns := fun _ _ => none
theorem ev31 : ∀ x, evalFn env31 ann31 31 ⟨[.pl (.cons (.int .u64) (.cons (.int .u64) (.cons (.int .u64) (.cons (.arr 4 (.int .u64)) (.cons (.int .u64) (.cons (.arr 4 (.int .u64)) (.cons (.arr 4 (.int .u64)) (.cons (.int .u64) (.cons (.sl (.int .u8)) .nil))))))))), .pl (.arr 4 (.int .u64)), .pl (.arr 4 (.int .u64)), .pl (.cons (.int .u64) (.cons (.int .u64) (.cons (.int .u64) (.cons (.arr 4 (.int .u64)) (.cons (.int .u64) (.cons (.arr 4 (.int .u64)) (.cons (.int .u64) (.cons (.arr 4 (.int .u64)) (.cons (.int .u64) (.cons (.int .u64) (.cons (.int .u64) (.cons (.int .u64) .nil))))))))))))], []⟩ ⟨[.pl (.cons (.int .u64) (.cons (.int .u64) (.cons (.int .u64) (.cons (.int .u64) (.cons .bool (.cons (.arr 4 (.int .u64)) (.cons (.arr 4 (.int .u64)) (.cons (.arr 4 (.int .u64)) (.cons (.arr 4 (.int .u64)) (.cons (.arr 4 (.int .u64)) .nil)))))))))), .pl (.int .i64)], []⟩ 60 K0 x = txfee_Compute x := by intro x; kernel_rfl
theorem ok31 : ConOk Try.prog 31 txfee_ComputeC := con_of_ev (E := env31) (envOk tysOk eqsOk (show HowsOk Try.prog [(35, .con uint256_SaturatingSubC), (40, .con txfee_GasPriceC), (44, .con params_ValidC), (69, .con txfee_meterC), (70, .con txfee_distributeC)] from (And.intro ok35 (And.intro ok40 (And.intro ok44 (And.intro ok69 (And.intro ok70 trivial)))))) follows) noOddP fun x _ h => ⟨ann31, 60, K0, (ev31 x).trans h⟩
/-- pontage/pontageref9.matchLength -/
noncomputable def pontageref9_matchLengthC : Con := ⟨_, _, pontageref9_matchLength⟩
noncomputable def env111 : Env := mkEnv Try.prog tys eqs []
def ann111 : Anns := fun p c => match p, c with | [111], 0 => some (.tmpl ⟨[.pl (.sl (.int .u8)), .pl (.int .i64), .pl (.int .i64), .dead, .dead, .dead, .dead, .pl (.int .i64), .dead, .dead, .dead, .dead, .dead, .dead, .dead, .dead, .dead, .dead, .dead, .dead, .dead, .dead, .dead, .dead, .dead, .dead, .dead, .dead, .dead, .dead, .dead, .dead, .dead, .dead, .dead, .dead, .dead, .dead], []⟩) | _, _ => none
theorem ev111 : ∀ x, evalFn env111 ann111 111 ⟨[.pl (.sl (.int .u8)), .pl (.int .i64), .pl (.int .i64)], []⟩ ⟨[.pl (.int .i64)], []⟩ 60 K0 x = pontageref9_matchLength x := by intro x; kernel_rfl
theorem ok111 : ConOk Try.prog 111 pontageref9_matchLengthC := con_of_ev (E := env111) (envOk tysOk eqsOk (show HowsOk Try.prog [] from trivial) follows) noOddP fun x _ h => ⟨ann111, 60, K0, (ev111 x).trans h⟩
/-- pontage/pontageref9.best -/
noncomputable def pontageref9_bestC : Con := ⟨_, _, pontageref9_best⟩
noncomputable def env109 : Env := mkEnv Try.prog tys eqs [(111, .con pontageref9_matchLengthC)]
def ann109 : Anns := fun p c => match p, c with | [1000000, 109], 6 => some (.join ⟨[.pl (.sl (.int .u8)), .pl (.int .i64), .dead, .dead, .dead, .dead, .pl (.int .i64), .pl (.int .i64), .pl (.int .i64), .dead, .dead, .dead, .dead, .pl (.int .i64), .pl (.int .i64), .pl .bool, .dead, .dead, .dead, .dead, .dead, .dead, .dead, .dead, .dead, .dead, .dead, .dead, .dead, .dead], []⟩) | [109], 0 => some (.tmpl ⟨[.pl (.sl (.int .u8)), .pl (.int .i64), .dead, .dead, .dead, .dead, .pl (.int .i64), .pl (.int .i64), .pl (.int .i64), .dead, .dead, .dead, .dead, .dead, .dead, .dead, .dead, .dead, .dead, .dead, .dead, .dead, .dead, .dead, .dead, .dead, .dead, .dead, .dead, .dead], []⟩) | _, _ => none
theorem ev109 : ∀ x, evalFn env109 ann109 109 ⟨[.pl (.sl (.int .u8)), .pl (.int .i64)], []⟩ ⟨[.pl (.int .i64), .pl (.int .i64)], []⟩ 60 K0 x = pontageref9_best x := by intro x; kernel_rfl
theorem ok109 : ConOk Try.prog 109 pontageref9_bestC := con_of_ev (E := env109) (envOk tysOk eqsOk (show HowsOk Try.prog [(111, .con pontageref9_matchLengthC)] from (And.intro ok111 trivial)) follows) noOddP fun x _ h => ⟨ann109, 60, K0, (ev109 x).trans h⟩
/-- pontage/pontageref9.Compress -/
noncomputable def pontageref9_CompressC : Con := ⟨_, _, pontageref9_Compress⟩
noncomputable def env104 : Env := mkEnv Try.prog tys eqs [(109, .con pontageref9_bestC), (110, .inl)]
def ann104 : Anns := fun p c => match p, c with | [104], 0 => some (.tmpl ⟨[.pl (.sl (.int .u8)), .dead, .dead, .whole 0, .pl (.int .i64), .pl (.int .i64), .dead, .dead, .dead, .dead, .dead, .dead, .dead, .dead, .dead, .dead, .dead, .dead, .dead, .dead, .dead, .dead, .dead, .dead, .dead, .dead, .dead, .dead, .dead, .dead, .dead, .dead, .dead, .dead, .dead, .dead, .dead, .dead, .dead, .dead, .dead, .dead, .dead, .dead, .dead, .dead, .dead, .dead, .dead, .dead, .dead], [.row (.int .u8)]⟩) | [110, 11, 4, 104], 0 => some (.tmpl ⟨[.whole 0, .pl (.sl (.int .u8)), .dead, .dead, .dead, .dead, .dead, .dead, .dead, .dead, .dead, .dead, .dead, .dead, .dead, .dead, .dead, .dead, .dead, .dead, .dead, .dead, .dead, .dead, .dead, .dead, .dead, .dead, .dead, .dead, .dead, .dead, .dead, .dead, .dead, .dead, .dead, .dead, .dead, .dead, .dead, .dead, .dead, .dead, .dead, .dead, .dead, .dead, .dead, .dead, .dead, .dead, .dead, .dead, .dead, .dead, .dead, .dead, .dead, .dead, .dead, .dead, .dead, .dead, .dead, .dead, .dead, .dead, .dead, .dead, .dead, .dead, .dead, .dead, .dead, .dead, .dead], [.row (.int .u8)]⟩) | [110, 7, 5, 104], 0 => some (.tmpl ⟨[.whole 0, .pl (.sl (.int .u8)), .dead, .dead, .dead, .dead, .dead, .dead, .dead, .dead, .dead, .dead, .dead, .dead, .dead, .dead, .dead, .dead, .dead, .dead, .dead, .dead, .dead, .dead, .dead, .dead, .pl (.sl (.int .u8)), .dead, .dead, .dead, .dead, .pl (.int .i64), .pl (.int .i64), .pl (.int .i64), .dead, .dead, .dead, .dead, .dead, .dead, .dead, .dead, .dead, .dead, .dead, .dead, .dead, .dead, .dead, .dead, .dead, .dead, .dead, .dead, .dead, .dead, .dead, .dead, .dead, .dead, .dead, .dead, .dead, .dead, .dead, .dead, .dead, .dead, .dead, .dead, .dead, .dead, .dead, .dead, .dead, .dead, .dead], [.row (.int .u8)]⟩) | _, _ => none
theorem ev104 : ∀ x, evalFn env104 ann104 104 ⟨[.pl (.sl (.int .u8))], []⟩ ⟨[.pl (.sl (.int .u8))], []⟩ 90 K0 x = pontageref9_Compress x := by intro x; kernel_rfl
theorem ok104 : ConOk Try.prog 104 pontageref9_CompressC := con_of_ev (E := env104) (envOk tysOk eqsOk (show HowsOk Try.prog [(109, .con pontageref9_bestC), (110, .inl)] from (And.intro ok109 trivial)) follows) noOddP fun x _ h => ⟨ann104, 90, K0, (ev104 x).trans h⟩
/-- pontage/pontageref10.Units -/
noncomputable def pontageref10_UnitsC : Con := ⟨_, _, pontageref10_Units⟩
noncomputable def env93 : Env := mkEnv Try.prog tys eqs [(104, .con pontageref9_CompressC)]
def ann93 : Anns := fun p c => match p, c with | [1000000, 93], 9 => some (.join ⟨[.dead, .dead, .pl (.int .u64), .dead, .dead, .dead, .dead, .dead, .pl (.int .u64), .dead, .dead, .dead, .dead, .dead, .dead, .dead, .dead, .dead, .dead, .dead, .dead, .dead, .dead, .dead, .dead, .dead, .dead, .dead, .dead], []⟩) | _, _ => none
theorem ev93 : ∀ x, evalFn env93 ann93 93 ⟨[.pl (.sl (.int .u8)), .pl (.int .u64), .pl (.int .u64)], []⟩ ⟨[.pl (.int .u64), .pl (.int .i64)], []⟩ 60 K0 x = pontageref10_Units x := by intro x; kernel_rfl
theorem ok93 : ConOk Try.prog 93 pontageref10_UnitsC := con_of_ev (E := env93) (envOk tysOk eqsOk (show HowsOk Try.prog [(104, .con pontageref9_CompressC)] from (And.intro ok104 trivial)) follows) noOddP fun x _ h => ⟨ann93, 60, K0, (ev93 x).trans h⟩
/-- pontage/pontageref23.gas -/
noncomputable def pontageref23_gasC : Con := ⟨_, _, pontageref23_gas⟩
noncomputable def env71 : Env := mkEnv Try.prog tys eqs [(47, .con pontageref12_ValidC), (52, .con pontageref1_FromUint64C), (55, .con pontageref1_FitsC), (56, .con pontageref1_DivC), (63, .con pontageref1_FromUint256C), (73, .con pontageref1_MulC), (76, .con pontageref1_ToUint256C), (85, .con pontageref1_IsZeroC), (86, .con pontageref1_CmpC), (93, .con pontageref10_UnitsC)]
def ann71 : Anns := fun _ _ => none
theorem ev71 : ∀ x, evalFn env71 ann71 71 ⟨[.pl (.cons (.int .u64) (.cons (.int .u64) (.cons (.int .u64) (.cons (.arr 4 (.int .u64)) (.cons (.int .u64) (.cons (.arr 4 (.int .u64)) (.cons (.arr 4 (.int .u64)) (.cons (.int .u64) (.cons (.sl (.int .u8)) .nil))))))))), .pl (.arr 4 (.int .u64)), .pl (.arr 4 (.int .u64)), .pl (.cons (.int .u64) (.cons (.int .u64) (.cons (.int .u64) (.cons (.arr 4 (.int .u64)) (.cons (.int .u64) (.cons (.arr 4 (.int .u64)) (.cons (.int .u64) (.cons (.arr 4 (.int .u64)) (.cons (.int .u64) (.cons (.int .u64) (.cons (.int .u64) (.cons (.int .u64) .nil))))))))))))], []⟩ ⟨[.pl (.int .u64), .pl (.int .u64), .pl (.int .i64)], []⟩ 60 K0 x = pontageref23_gas x := by intro x; kernel_rfl
theorem ok71 : ConOk Try.prog 71 pontageref23_gasC := con_of_ev (E := env71) (envOk tysOk eqsOk (show HowsOk Try.prog [(47, .con pontageref12_ValidC), (52, .con pontageref1_FromUint64C), (55, .con pontageref1_FitsC), (56, .con pontageref1_DivC), (63, .con pontageref1_FromUint256C), (73, .con pontageref1_MulC), (76, .con pontageref1_ToUint256C), (85, .con pontageref1_IsZeroC), (86, .con pontageref1_CmpC), (93, .con pontageref10_UnitsC)] from (And.intro ok47 (And.intro ok52 (And.intro ok55 (And.intro ok56 (And.intro ok63 (And.intro ok73 (And.intro ok76 (And.intro ok85 (And.intro ok86 (And.intro ok93 trivial))))))))))) follows) noOddP fun x _ h => ⟨ann71, 60, K0, (ev71 x).trans h⟩
/-- pontage/pontageref1.Min -/
noncomputable def pontageref1_MinC : Con := ⟨_, _, pontageref1_Min⟩
noncomputable def env74 : Env := mkEnv Try.prog tys eqs [(86, .con pontageref1_CmpC)]
def ann74 : Anns := fun _ _ => none
theorem ev74 : ∀ x, evalFn env74 ann74 74 ⟨[.pl (.sl (.int .i64)), .pl (.sl (.int .i64))], []⟩ ⟨[.pl (.sl (.int .i64))], []⟩ 60 K0 x = pontageref1_Min x := by intro x; kernel_rfl
theorem ok74 : ConOk Try.prog 74 pontageref1_MinC := con_of_ev (E := env74) (envOk tysOk eqsOk (show HowsOk Try.prog [(86, .con pontageref1_CmpC)] from (And.intro ok86 trivial)) follows) noOddP fun x _ h => ⟨ann74, 60, K0, (ev74 x).trans h⟩
/-- pontage/pontageref23.tip -/
noncomputable def pontageref23_tipC : Con := ⟨_, _, pontageref23_tip⟩
noncomputable def env72 : Env := mkEnv Try.prog tys eqs [(63, .con pontageref1_FromUint256C), (74, .con pontageref1_MinC), (75, .fresh pontageref1_SubC)]
def ann72 : Anns := fun _ _ => none
theorem ev72 : ∀ x, evalFn env72 ann72 72 ⟨[.pl (.cons (.int .u64) (.cons (.int .u64) (.cons (.int .u64) (.cons (.arr 4 (.int .u64)) (.cons (.int .u64) (.cons (.arr 4 (.int .u64)) (.cons (.arr 4 (.int .u64)) (.cons (.int .u64) (.cons (.sl (.int .u8)) .nil))))))))), .pl (.arr 4 (.int .u64))], []⟩ ⟨[.pl (.sl (.int .i64))], []⟩ 60 K0 x = pontageref23_tip x := by intro x; kernel_rfl
theorem ok72 : ConOk Try.prog 72 pontageref23_tipC := con_of_ev (E := env72) (envOk tysOk eqsOk (show HowsOk Try.prog [(63, .con pontageref1_FromUint256C), (74, .con pontageref1_MinC), (75, .fresh pontageref1_SubC)] from (And.intro ok63 (And.intro ok74 (And.intro okf75 trivial)))) follows) noOddP fun x _ h => ⟨ann72, 60, K0, (ev72 x).trans h⟩
/-- pontage/pontageref23.Compute -/
noncomputable def pontageref23_ComputeC : Con := ⟨_, _, pontageref23_Compute⟩
noncomputable def env32 : Env := mkEnv Try.prog tys eqs [(52, .con pontageref1_FromUint64C), (55, .con pontageref1_FitsC), (56, .con pontageref1_DivC), (58, .con pontageref1_AddC), (63, .con pontageref1_FromUint256C), (71, .con pontageref23_gasC), (72, .con pontageref23_tipC), (73, .con pontageref1_MulC), (74, .con pontageref1_MinC), (75, .fresh pontageref1_SubC), (76, .con pontageref1_ToUint256C)]
def ann32 : Anns := fun p c => match p, c with | [1000000, 32], 20 => some (.join ⟨[.dead, .dead, .dead, .dead, .dead, .dead, .dead, .dead, .ptr 0 [], .dead, .dead, .dead, .dead, .ptr 1 [], .dead, .pl (.sl (.int .i64)), .pl (.sl (.int .i64)), .dead, .pl (.sl (.int .i64)), .dead, .pl (.sl (.int .i64)), .dead, .pl (.sl (.int .i64)), .dead, .dead, .dead, .dead, .dead, .dead, .dead, .dead, .dead, .dead, .dead, .dead, .dead, .dead, .dead, .dead, .dead, .dead, .dead, .dead, .dead, .dead, .dead, .dead, .dead, .dead, .dead, .dead, .dead, .dead, .dead, .dead, .dead, .dead, .dead, .dead, .dead, .dead, .dead, .dead, .dead, .dead, .dead, .dead, .dead, .dead, .dead, .dead, .dead, .dead, .dead, .dead, .dead, .dead, .dead, .dead, .dead, .dead, .dead, .dead, .dead, .dead, .dead, .dead, .dead, .dead, .dead, .dead, .dead, .dead, .dead, .dead, .dead, .dead, .dead, .dead, .dead, .dead, .dead, .dead, .dead, .dead, .dead, .dead, .dead, .dead, .dead, .dead, .dead, .dead, .dead, .dead, .dead, .dead, .dead, .dead, .dead, .dead, .dead, .dead, .dead, .dead, .dead, .dead, .dead, .dead, .dead, .dead, .dead, .dead, .dead], [.box (.cons (.int .u64) (.cons (.int .u64) (.cons (.int .u64) (.cons (.int .u64) (.cons .bool (.cons (.arr 4 (.int .u64)) (.cons (.arr 4 (.int .u64)) (.cons (.arr 4 (.int .u64)) (.cons (.arr 4 (.int .u64)) (.cons (.arr 4 (.int .u64)) .nil)))))))))) (.pl (.cons (.int .u64) (.cons (.int .u64) (.cons (.int .u64) (.cons (.int .u64) (.cons .bool (.cons (.arr 4 (.int .u64)) (.cons (.arr 4 (.int .u64)) (.cons (.arr 4 (.int .u64)) (.cons (.arr 4 (.int .u64)) (.cons (.arr 4 (.int .u64)) .nil))))))))))), .box (.cons (.int .u64) (.cons (.int .u64) (.cons (.int .u64) (.cons (.int .u64) (.cons .bool (.cons (.arr 4 (.int .u64)) (.cons (.arr 4 (.int .u64)) (.cons (.arr 4 (.int .u64)) (.cons (.arr 4 (.int .u64)) (.cons (.arr 4 (.int .u64)) .nil)))))))))) (.pl (.cons (.int .u64) (.cons (.int .u64) (.cons (.int .u64) (.cons (.int .u64) (.cons .bool (.cons (.arr 4 (.int .u64)) (.cons (.arr 4 (.int .u64)) (.cons (.arr 4 (.int .u64)) (.cons (.arr 4 (.int .u64)) (.cons (.arr 4 (.int .u64)) .nil)))))))))))]⟩) | [1000000, 32], 9 => some (.join ⟨[.dead, .dead, .dead, .dead, .ptr 0 [], .ptr 1 [], .dead, .ptr 2 [], .ptr 3 [], .dead, .dead, .pl (.int .u64), .dead, .ptr 4 [], .dead, .dead, .dead, .dead, .dead, .dead, .dead, .dead, .dead, .dead, .dead, .dead, .dead, .dead, .dead, .dead, .dead, .dead, .dead, .dead, .dead, .dead, .dead, .dead, .dead, .dead, .dead, .dead, .dead, .dead, .dead, .dead, .dead, .dead, .dead, .dead, .dead, .dead, .dead, .dead, .dead, .dead, .dead, .dead, .dead, .dead, .dead, .dead, .dead, .dead, .dead, .dead, .dead, .dead, .dead, .dead, .dead, .dead, .dead, .dead, .dead, .dead, .dead, .dead, .dead, .dead, .dead, .dead, .dead, .dead, .dead, .dead, .dead, .dead, .dead, .dead, .dead, .dead, .dead, .dead, .dead, .dead, .dead, .dead, .dead, .dead, .dead, .dead, .dead, .dead, .dead, .dead, .dead, .dead, .dead, .dead, .dead, .dead, .dead, .dead, .dead, .dead, .dead, .dead, .dead, .dead, .dead, .dead, .dead, .dead, .dead, .dead, .dead, .dead, .dead, .dead, .dead, .dead, .dead, .dead], [.box (.cons (.int .u64) (.cons (.int .u64) (.cons (.int .u64) (.cons (.arr 4 (.int .u64)) (.cons (.int .u64) (.cons (.arr 4 (.int .u64)) (.cons (.arr 4 (.int .u64)) (.cons (.int .u64) (.cons (.sl (.int .u8)) .nil))))))))) (.pl (.cons (.int .u64) (.cons (.int .u64) (.cons (.int .u64) (.cons (.arr 4 (.int .u64)) (.cons (.int .u64) (.cons (.arr 4 (.int .u64)) (.cons (.arr 4 (.int .u64)) (.cons (.int .u64) (.cons (.sl (.int .u8)) .nil)))))))))), .box (.arr 4 (.int .u64)) (.pl (.arr 4 (.int .u64))), .box (.cons (.int .u64) (.cons (.int .u64) (.cons (.int .u64) (.cons (.arr 4 (.int .u64)) (.cons (.int .u64) (.cons (.arr 4 (.int .u64)) (.cons (.int .u64) (.cons (.arr 4 (.int .u64)) (.cons (.int .u64) (.cons (.int .u64) (.cons (.int .u64) (.cons (.int .u64) .nil)))))))))))) (.pl (.cons (.int .u64) (.cons (.int .u64) (.cons (.int .u64) (.cons (.arr 4 (.int .u64)) (.cons (.int .u64) (.cons (.arr 4 (.int .u64)) (.cons (.int .u64) (.cons (.arr 4 (.int .u64)) (.cons (.int .u64) (.cons (.int .u64) (.cons (.int .u64) (.cons (.int .u64) .nil))))))))))))), .box (.cons (.int .u64) (.cons (.int .u64) (.cons (.int .u64) (.cons (.int .u64) (.cons .bool (.cons (.arr 4 (.int .u64)) (.cons (.arr 4 (.int .u64)) (.cons (.arr 4 (.int .u64)) (.cons (.arr 4 (.int .u64)) (.cons (.arr 4 (.int .u64)) .nil)))))))))) (.pl (.cons (.int .u64) (.cons (.int .u64) (.cons (.int .u64) (.cons (.int .u64) (.cons .bool (.cons (.arr 4 (.int .u64)) (.cons (.arr 4 (.int .u64)) (.cons (.arr 4 (.int .u64)) (.cons (.arr 4 (.int .u64)) (.cons (.arr 4 (.int .u64)) .nil))))))))))), .box (.cons (.int .u64) (.cons (.int .u64) (.cons (.int .u64) (.cons (.int .u64) (.cons .bool (.cons (.arr 4 (.int .u64)) (.cons (.arr 4 (.int .u64)) (.cons (.arr 4 (.int .u64)) (.cons (.arr 4 (.int .u64)) (.cons (.arr 4 (.int .u64)) .nil)))))))))) (.pl (.cons (.int .u64) (.cons (.int .u64) (.cons (.int .u64) (.cons (.int .u64) (.cons .bool (.cons (.arr 4 (.int .u64)) (.cons (.arr 4 (.int .u64)) (.cons (.arr 4 (.int .u64)) (.cons (.arr 4 (.int .u64)) (.cons (.arr 4 (.int .u64)) .nil)))))))))))]⟩) | _, _ => none
theorem ev32 : ∀ x, evalFn env32 ann32 32 ⟨[.pl (.cons (.int .u64) (.cons (.int .u64) (.cons (.int .u64) (.cons (.arr 4 (.int .u64)) (.cons (.int .u64) (.cons (.arr 4 (.int .u64)) (.cons (.arr 4 (.int .u64)) (.cons (.int .u64) (.cons (.sl (.int .u8)) .nil))))))))), .pl (.arr 4 (.int .u64)), .pl (.arr 4 (.int .u64)), .pl (.cons (.int .u64) (.cons (.int .u64) (.cons (.int .u64) (.cons (.arr 4 (.int .u64)) (.cons (.int .u64) (.cons (.arr 4 (.int .u64)) (.cons (.int .u64) (.cons (.arr 4 (.int .u64)) (.cons (.int .u64) (.cons (.int .u64) (.cons (.int .u64) (.cons (.int .u64) .nil))))))))))))], []⟩ ⟨[.pl (.cons (.int .u64) (.cons (.int .u64) (.cons (.int .u64) (.cons (.int .u64) (.cons .bool (.cons (.arr 4 (.int .u64)) (.cons (.arr 4 (.int .u64)) (.cons (.arr 4 (.int .u64)) (.cons (.arr 4 (.int .u64)) (.cons (.arr 4 (.int .u64)) .nil)))))))))), .pl (.int .i64)], []⟩ 60 K0 x = pontageref23_Compute x := by intro x; kernel_rfl
theorem ok32 : ConOk Try.prog 32 pontageref23_ComputeC := con_of_ev (E := env32) (envOk tysOk eqsOk (show HowsOk Try.prog [(52, .con pontageref1_FromUint64C), (55, .con pontageref1_FitsC), (56, .con pontageref1_DivC), (58, .con pontageref1_AddC), (63, .con pontageref1_FromUint256C), (71, .con pontageref23_gasC), (72, .con pontageref23_tipC), (73, .con pontageref1_MulC), (74, .con pontageref1_MinC), (75, .fresh pontageref1_SubC), (76, .con pontageref1_ToUint256C)] from (And.intro ok52 (And.intro ok55 (And.intro ok56 (And.intro ok58 (And.intro ok63 (And.intro ok71 (And.intro ok72 (And.intro ok73 (And.intro ok74 (And.intro okf75 (And.intro ok76 trivial)))))))))))) follows) noOddP fun x _ h => ⟨ann32, 60, K0, (ev32 x).trans h⟩
/-- pontage/pontagelaw23.TxFeeCompute -/
noncomputable def pontagelaw23_TxFeeComputeC : Con := ⟨_, _, pontagelaw23_TxFeeCompute⟩
noncomputable def env9 : Env := mkEnv Try.prog tys eqs [(12, .con pontagelaw14_ValidParamsC), (29, .con pontagelaw23_awakeC), (30, .con pontagelaw23_buildC), (31, .con txfee_ComputeC), (32, .con pontageref23_ComputeC)]
def ann9 : Anns := fun p c => match p, c with | [1000000, 9], 3 => some (.join ⟨[.dead, .dead, .dead, .dead, .dead, .dead, .ptr 0 [], .ptr 1 [], .ptr 2 [], .ptr 3 [], .ptr 4 [], .ptr 5 [], .dead, .dead, .dead, .dead, .dead, .dead, .dead, .dead, .dead, .dead, .dead, .dead, .dead, .dead, .dead, .dead, .dead, .dead, .dead, .dead, .dead, .dead, .dead, .pl .bool, .dead, .dead, .dead, .dead, .dead, .dead, .dead, .dead, .dead, .dead, .dead, .dead, .dead, .dead, .dead, .dead, .dead, .dead, .dead, .dead, .dead, .dead, .dead, .dead, .dead, .dead, .dead, .dead, .dead, .dead, .dead, .dead, .dead, .dead, .dead, .dead, .dead, .dead, .dead, .dead, .dead, .dead, .dead, .dead, .dead, .dead, .dead, .dead, .dead, .dead, .dead, .dead, .dead, .dead, .dead, .dead, .dead, .dead, .dead, .dead, .dead, .dead, .dead, .dead, .dead, .dead], [.box (.cons (.int .u64) (.cons (.int .u64) (.cons (.int .u64) (.cons (.arr 4 (.int .u64)) (.cons (.int .u64) (.cons (.arr 4 (.int .u64)) (.cons (.arr 4 (.int .u64)) (.cons (.int .u64) (.cons (.sl (.int .u8)) .nil))))))))) (.pl (.cons (.int .u64) (.cons (.int .u64) (.cons (.int .u64) (.cons (.arr 4 (.int .u64)) (.cons (.int .u64) (.cons (.arr 4 (.int .u64)) (.cons (.arr 4 (.int .u64)) (.cons (.int .u64) (.cons (.sl (.int .u8)) .nil)))))))))), .box (.arr 4 (.int .u64)) (.pl (.arr 4 (.int .u64))), .box (.arr 4 (.int .u64)) (.pl (.arr 4 (.int .u64))), .box (.cons (.int .u64) (.cons (.int .u64) (.cons (.int .u64) (.cons (.arr 4 (.int .u64)) (.cons (.int .u64) (.cons (.arr 4 (.int .u64)) (.cons (.int .u64) (.cons (.arr 4 (.int .u64)) (.cons (.int .u64) (.cons (.int .u64) (.cons (.int .u64) (.cons (.int .u64) .nil)))))))))))) (.pl (.cons (.int .u64) (.cons (.int .u64) (.cons (.int .u64) (.cons (.arr 4 (.int .u64)) (.cons (.int .u64) (.cons (.arr 4 (.int .u64)) (.cons (.int .u64) (.cons (.arr 4 (.int .u64)) (.cons (.int .u64) (.cons (.int .u64) (.cons (.int .u64) (.cons (.int .u64) .nil))))))))))))), .box (.cons (.int .u64) (.cons (.int .u64) (.cons (.int .u64) (.cons (.int .u64) (.cons (.int .u64) (.cons (.int .u64) (.cons (.int .i64) (.cons (.sl (.int .i64)) .nil)))))))) (.pl (.cons (.int .u64) (.cons (.int .u64) (.cons (.int .u64) (.cons (.int .u64) (.cons (.int .u64) (.cons (.int .u64) (.cons (.int .i64) (.cons (.sl (.int .i64)) .nil))))))))), .box (.arr 8 (.int .u64)) (.pl (.arr 8 (.int .u64)))]⟩) | [1000000, 9], 4 => some (.join ⟨[.dead, .dead, .dead, .dead, .dead, .dead, .ptr 0 [], .ptr 1 [], .ptr 2 [], .ptr 3 [], .ptr 4 [], .ptr 5 [], .dead, .dead, .dead, .dead, .dead, .dead, .dead, .dead, .dead, .dead, .dead, .dead, .dead, .dead, .dead, .dead, .dead, .dead, .dead, .dead, .dead, .dead, .dead, .dead, .dead, .dead, .dead, .dead, .dead, .dead, .dead, .dead, .dead, .dead, .dead, .dead, .dead, .dead, .dead, .dead, .dead, .dead, .dead, .dead, .dead, .dead, .dead, .dead, .dead, .dead, .dead, .dead, .dead, .dead, .dead, .dead, .dead, .dead, .dead, .dead, .dead, .dead, .dead, .dead, .dead, .dead, .dead, .dead, .dead, .dead, .dead, .dead, .dead, .dead, .dead, .dead, .dead, .dead, .dead, .dead, .dead, .dead, .dead, .dead, .dead, .dead, .dead, .dead, .dead, .dead], [.box (.cons (.int .u64) (.cons (.int .u64) (.cons (.int .u64) (.cons (.arr 4 (.int .u64)) (.cons (.int .u64) (.cons (.arr 4 (.int .u64)) (.cons (.arr 4 (.int .u64)) (.cons (.int .u64) (.cons (.sl (.int .u8)) .nil))))))))) (.pl (.cons (.int .u64) (.cons (.int .u64) (.cons (.int .u64) (.cons (.arr 4 (.int .u64)) (.cons (.int .u64) (.cons (.arr 4 (.int .u64)) (.cons (.arr 4 (.int .u64)) (.cons (.int .u64) (.cons (.sl (.int .u8)) .nil)))))))))), .box (.arr 4 (.int .u64)) (.pl (.arr 4 (.int .u64))), .box (.arr 4 (.int .u64)) (.pl (.arr 4 (.int .u64))), .box (.cons (.int .u64) (.cons (.int .u64) (.cons (.int .u64) (.cons (.arr 4 (.int .u64)) (.cons (.int .u64) (.cons (.arr 4 (.int .u64)) (.cons (.int .u64) (.cons (.arr 4 (.int .u64)) (.cons (.int .u64) (.cons (.int .u64) (.cons (.int .u64) (.cons (.int .u64) .nil)))))))))))) (.pl (.cons (.int .u64) (.cons (.int .u64) (.cons (.int .u64) (.cons (.arr 4 (.int .u64)) (.cons (.int .u64) (.cons (.arr 4 (.int .u64)) (.cons (.int .u64) (.cons (.arr 4 (.int .u64)) (.cons (.int .u64) (.cons (.int .u64) (.cons (.int .u64) (.cons (.int .u64) .nil))))))))))))), .box (.cons (.int .u64) (.cons (.int .u64) (.cons (.int .u64) (.cons (.int .u64) (.cons (.int .u64) (.cons (.int .u64) (.cons (.int .i64) (.cons (.sl (.int .i64)) .nil)))))))) (.pl (.cons (.int .u64) (.cons (.int .u64) (.cons (.int .u64) (.cons (.int .u64) (.cons (.int .u64) (.cons (.int .u64) (.cons (.int .i64) (.cons (.sl (.int .i64)) .nil))))))))), .box (.arr 8 (.int .u64)) (.pl (.arr 8 (.int .u64)))]⟩) | [9], 0 => some (.tmpl ⟨[.dead, .dead, .dead, .dead, .dead, .dead, .ptr 0 [], .ptr 1 [], .ptr 2 [], .dead, .dead, .dead, .dead, .ptr 3 [], .ptr 4 [], .ptr 5 [], .dead, .dead, .dead, .dead, .dead, .dead, .dead, .dead, .dead, .dead, .dead, .dead, .dead, .dead, .dead, .dead, .dead, .dead, .dead, .dead, .dead, .dead, .dead, .dead, .dead, .dead, .dead, .dead, .dead, .dead, .pl (.arr 2 (.cons (.int .u64) (.cons (.int .u64) (.cons (.int .u64) (.cons (.arr 4 (.int .u64)) (.cons (.int .u64) (.cons (.arr 4 (.int .u64)) (.cons (.int .u64) (.cons (.arr 4 (.int .u64)) (.cons (.int .u64) (.cons (.int .u64) (.cons (.int .u64) (.cons (.int .u64) .nil))))))))))))), .pl (.int .i64), .dead, .dead, .dead, .dead, .dead, .dead, .dead, .dead, .dead, .dead, .dead, .dead, .dead, .dead, .dead, .dead, .dead, .dead, .dead, .dead, .dead, .dead, .dead, .dead, .dead, .dead, .dead, .dead, .dead, .dead, .dead, .dead, .dead, .dead, .dead, .dead, .dead, .dead, .dead, .dead, .dead, .dead, .dead, .dead, .dead, .dead, .dead, .dead, .dead, .dead, .dead, .dead, .dead, .dead], [.box (.cons (.int .u64) (.cons (.int .u64) (.cons (.int .u64) (.cons (.arr 4 (.int .u64)) (.cons (.int .u64) (.cons (.arr 4 (.int .u64)) (.cons (.arr 4 (.int .u64)) (.cons (.int .u64) (.cons (.sl (.int .u8)) .nil))))))))) (.pl (.cons (.int .u64) (.cons (.int .u64) (.cons (.int .u64) (.cons (.arr 4 (.int .u64)) (.cons (.int .u64) (.cons (.arr 4 (.int .u64)) (.cons (.arr 4 (.int .u64)) (.cons (.int .u64) (.cons (.sl (.int .u8)) .nil)))))))))), .box (.arr 4 (.int .u64)) (.pl (.arr 4 (.int .u64))), .box (.arr 4 (.int .u64)) (.pl (.arr 4 (.int .u64))), .box (.cons (.int .u64) (.cons (.int .u64) (.cons (.int .u64) (.cons (.arr 4 (.int .u64)) (.cons (.int .u64) (.cons (.arr 4 (.int .u64)) (.cons (.arr 4 (.int .u64)) (.cons (.int .u64) (.cons (.sl (.int .u8)) .nil))))))))) (.pl (.cons (.int .u64) (.cons (.int .u64) (.cons (.int .u64) (.cons (.arr 4 (.int .u64)) (.cons (.int .u64) (.cons (.arr 4 (.int .u64)) (.cons (.arr 4 (.int .u64)) (.cons (.int .u64) (.cons (.sl (.int .u8)) .nil)))))))))), .box (.arr 4 (.int .u64)) (.pl (.arr 4 (.int .u64))), .box (.arr 4 (.int .u64)) (.pl (.arr 4 (.int .u64)))]⟩) | _, _ => none
theorem ev9 : ∀ x, evalFn env9 ann9 9 ⟨[.pl (.cons (.int .u64) (.cons (.int .u64) (.cons (.int .u64) (.cons (.arr 4 (.int .u64)) (.cons (.int .u64) (.cons (.arr 4 (.int .u64)) (.cons (.arr 4 (.int .u64)) (.cons (.int .u64) (.cons (.sl (.int .u8)) .nil))))))))), .pl (.arr 4 (.int .u64)), .pl (.arr 4 (.int .u64)), .pl (.cons (.int .u64) (.cons (.int .u64) (.cons (.int .u64) (.cons (.arr 4 (.int .u64)) (.cons (.int .u64) (.cons (.arr 4 (.int .u64)) (.cons (.int .u64) (.cons (.arr 4 (.int .u64)) (.cons (.int .u64) (.cons (.int .u64) (.cons (.int .u64) (.cons (.int .u64) .nil)))))))))))), .pl (.cons (.int .u64) (.cons (.int .u64) (.cons (.int .u64) (.cons (.int .u64) (.cons (.int .u64) (.cons (.int .u64) (.cons (.int .i64) (.cons (.sl (.int .i64)) .nil)))))))), .pl (.arr 8 (.int .u64))], []⟩ ⟨[.pl .bool], []⟩ 60 K0 x = pontagelaw23_TxFeeCompute x := by intro x; kernel_rfl
theorem ok9 : ConOk Try.prog 9 pontagelaw23_TxFeeComputeC := con_of_ev (E := env9) (envOk tysOk eqsOk (show HowsOk Try.prog [(12, .con pontagelaw14_ValidParamsC), (29, .con pontagelaw23_awakeC), (30, .con pontagelaw23_buildC), (31, .con txfee_ComputeC), (32, .con pontageref23_ComputeC)] from (And.intro ok12 (And.intro ok29 (And.intro ok30 (And.intro ok31 (And.intro ok32 trivial)))))) follows) noOddP fun x _ h => ⟨ann9, 60, K0, (ev9 x).trans h⟩
/-- pontage/uint256.SaturatingMul -/
noncomputable def uint256_SaturatingMulC : Con := ⟨_, _, uint256_SaturatingMul⟩
noncomputable def env36 : Env := mkEnv Try.prog tys eqs [(42, .con uint256_MulC), (79, .con uint256_maxValueC)]
def ann36 : Anns := fun _ _ => none
theorem ev36 : ∀ x, evalFn env36 ann36 36 ⟨[.pl (.arr 4 (.int .u64)), .pl (.arr 4 (.int .u64))], []⟩ ⟨[.pl (.arr 4 (.int .u64))], []⟩ 60 K0 x = uint256_SaturatingMul x := by intro x; kernel_rfl
theorem ok36 : ConOk Try.prog 36 uint256_SaturatingMulC := con_of_ev (E := env36) (envOk tysOk eqsOk (show HowsOk Try.prog [(42, .con uint256_MulC), (79, .con uint256_maxValueC)] from (And.intro ok42 (And.intro ok79 trivial))) follows) noOddP fun x _ h => ⟨ann36, 60, K0, (ev36 x).trans h⟩
/-- pontage/pontagelaw23.TxFeeShares -/
noncomputable def pontagelaw23_TxFeeSharesC : Con := ⟨_, _, pontagelaw23_TxFeeShares⟩
noncomputable def env10 : Env := mkEnv Try.prog tys eqs [(12, .con pontagelaw14_ValidParamsC), (21, .con uint256_CmpC), (29, .con pontagelaw23_awakeC), (30, .con pontagelaw23_buildC), (31, .con txfee_ComputeC), (33, .con sizeest_UnitsC), (34, .con sizeest_CostC), (35, .con uint256_SaturatingSubC), (36, .con uint256_SaturatingMulC), (37, .con bips_ScaleC), (38, .con uint256_MinC), (39, .con uint256_SaturatingAddC)]
def ann10 : Anns := fun _ _ => none
theorem ev10 : ∀ x, evalFn env10 ann10 10 ⟨[.pl (.cons (.int .u64) (.cons (.int .u64) (.cons (.int .u64) (.cons (.int .u64) (.cons (.int .u64) (.cons (.int .u64) (.cons (.int .i64) (.cons (.sl (.int .i64)) .nil)))))))), .pl (.arr 8 (.int .u64))], []⟩ ⟨[.pl .bool], []⟩ 60 K0 x = pontagelaw23_TxFeeShares x := by intro x; kernel_rfl
theorem ok10 : ConOk Try.prog 10 pontagelaw23_TxFeeSharesC := con_of_ev (E := env10) (envOk tysOk eqsOk (show HowsOk Try.prog [(12, .con pontagelaw14_ValidParamsC), (21, .con uint256_CmpC), (29, .con pontagelaw23_awakeC), (30, .con pontagelaw23_buildC), (31, .con txfee_ComputeC), (33, .con sizeest_UnitsC), (34, .con sizeest_CostC), (35, .con uint256_SaturatingSubC), (36, .con uint256_SaturatingMulC), (37, .con bips_ScaleC), (38, .con uint256_MinC), (39, .con uint256_SaturatingAddC)] from (And.intro ok12 (And.intro ok21 (And.intro ok29 (And.intro ok30 (And.intro ok31 (And.intro ok33 (And.intro ok34 (And.intro ok35 (And.intro ok36 (And.intro ok37 (And.intro ok38 (And.intro ok39 trivial))))))))))))) follows) noOddP fun x _ h => ⟨ann10, 60, K0, (ev10 x).trans h⟩
/-- pontage/txfee.Total -/
noncomputable def txfee_TotalC : Con := ⟨_, _, txfee_Total⟩
noncomputable def env41 : Env := mkEnv Try.prog tys eqs [(61, .con uint256_AddC)]
def ann41 : Anns := fun p c => match p, c with | [41], 0 => some (.tmpl ⟨[.dead, .dead, .ptr 0 [], .dead, .ptr 1 [], .dead, .dead, .dead, .dead, .dead, .dead, .dead, .dead, .dead, .dead, .dead, .whole 2, .pl (.int .i64), .pl (.int .i64), .dead, .dead, .dead, .dead, .dead, .dead, .dead, .dead, .dead, .dead, .dead, .dead, .dead, .dead, .dead], [.box (.arr 4 (.int .u64)) (.pl (.arr 4 (.int .u64))), .box (.arr 4 (.int .u64)) (.pl (.arr 4 (.int .u64))), .row (.arr 4 (.int .u64))]⟩) | _, _ => none
theorem ev41 : ∀ x, evalFn env41 ann41 41 ⟨[.pl (.cons (.int .u64) (.cons (.int .u64) (.cons (.int .u64) (.cons (.int .u64) (.cons .bool (.cons (.arr 4 (.int .u64)) (.cons (.arr 4 (.int .u64)) (.cons (.arr 4 (.int .u64)) (.cons (.arr 4 (.int .u64)) (.cons (.arr 4 (.int .u64)) .nil))))))))))], []⟩ ⟨[.pl (.arr 4 (.int .u64)), .pl (.int .i64)], []⟩ 60 K0 x = txfee_Total x := by intro x; kernel_rfl
theorem ok41 : ConOk Try.prog 41 txfee_TotalC := con_of_ev (E := env41) (envOk tysOk eqsOk (show HowsOk Try.prog [(61, .con uint256_AddC)] from (And.intro ok61 trivial)) follows) noOddP fun x _ h => ⟨ann41, 60, K0, (ev41 x).trans h⟩
/-- pontage/pontagelaw23.TxFeeTotal -/
noncomputable def pontagelaw23_TxFeeTotalC : Con := ⟨_, _, pontagelaw23_TxFeeTotal⟩
noncomputable def env11 : Env := mkEnv Try.prog tys eqs [(12, .con pontagelaw14_ValidParamsC), (29, .con pontagelaw23_awakeC), (30, .con pontagelaw23_buildC), (31, .con txfee_ComputeC), (40, .con txfee_GasPriceC), (41, .con txfee_TotalC), (42, .con uint256_MulC)]
def ann11 : Anns := fun p c => match p, c with | [1000000, 11], 13 => some (.join ⟨[.dead, .dead, .dead, .dead, .dead, .ptr 0 [], .dead, .dead, .ptr 1 [], .dead, .dead, .dead, .dead, .dead, .dead, .dead, .dead, .dead, .dead, .dead, .dead, .dead, .dead, .dead, .dead, .dead, .dead, .dead, .dead, .dead, .dead, .dead, .dead, .dead, .dead, .dead, .dead, .dead, .dead, .dead, .dead, .dead, .dead, .dead, .dead, .dead, .dead, .dead, .dead, .dead, .dead, .dead, .dead, .dead, .dead, .dead, .dead, .dead, .dead, .dead, .dead, .dead, .dead, .dead, .dead, .dead, .dead, .dead, .dead, .dead, .dead, .dead, .dead, .dead, .dead, .dead, .dead, .dead, .dead, .dead, .dead, .dead, .dead, .dead, .dead, .dead, .dead, .dead, .dead, .dead, .dead, .dead, .dead, .dead, .dead, .dead, .dead, .dead, .dead, .dead, .dead, .dead, .dead, .dead, .dead, .dead, .dead, .dead, .dead, .dead, .dead, .dead, .dead, .dead, .dead, .dead, .dead, .dead, .dead, .dead, .dead, .dead, .dead, .dead, .dead, .dead], [.box (.cons (.int .u64) (.cons (.int .u64) (.cons (.int .u64) (.cons (.arr 4 (.int .u64)) (.cons (.int .u64) (.cons (.arr 4 (.int .u64)) (.cons (.arr 4 (.int .u64)) (.cons (.int .u64) (.cons (.sl (.int .u8)) .nil))))))))) (.pl (.cons (.int .u64) (.cons (.int .u64) (.cons (.int .u64) (.cons (.arr 4 (.int .u64)) (.cons (.int .u64) (.cons (.arr 4 (.int .u64)) (.cons (.arr 4 (.int .u64)) (.cons (.int .u64) (.cons (.sl (.int .u8)) .nil)))))))))), .box (.cons (.int .u64) (.cons (.int .u64) (.cons (.int .u64) (.cons (.int .u64) (.cons .bool (.cons (.arr 4 (.int .u64)) (.cons (.arr 4 (.int .u64)) (.cons (.arr 4 (.int .u64)) (.cons (.arr 4 (.int .u64)) (.cons (.arr 4 (.int .u64)) .nil)))))))))) (.pl (.cons (.int .u64) (.cons (.int .u64) (.cons (.int .u64) (.cons (.int .u64) (.cons .bool (.cons (.arr 4 (.int .u64)) (.cons (.arr 4 (.int .u64)) (.cons (.arr 4 (.int .u64)) (.cons (.arr 4 (.int .u64)) (.cons (.arr 4 (.int .u64)) .nil)))))))))))]⟩) | _, _ => none
theorem ev11 : ∀ x, evalFn env11 ann11 11 ⟨[.pl (.cons (.int .u64) (.cons (.int .u64) (.cons (.int .u64) (.cons (.int .u64) (.cons (.int .u64) (.cons (.int .u64) (.cons (.int .i64) (.cons (.sl (.int .i64)) .nil)))))))), .pl (.arr 8 (.int .u64))], []⟩ ⟨[.pl .bool], []⟩ 60 K0 x = pontagelaw23_TxFeeTotal x := by intro x; kernel_rfl
theorem ok11 : ConOk Try.prog 11 pontagelaw23_TxFeeTotalC := con_of_ev (E := env11) (envOk tysOk eqsOk (show HowsOk Try.prog [(12, .con pontagelaw14_ValidParamsC), (29, .con pontagelaw23_awakeC), (30, .con pontagelaw23_buildC), (31, .con txfee_ComputeC), (40, .con txfee_GasPriceC), (41, .con txfee_TotalC), (42, .con uint256_MulC)] from (And.intro ok12 (And.intro ok29 (And.intro ok30 (And.intro ok31 (And.intro ok40 (And.intro ok41 (And.intro ok42 trivial)))))))) follows) noOddP fun x _ h => ⟨ann11, 60, K0, (ev11 x).trans h⟩
end Sym

/- The law of the gas price's bounds, of the plain functions. -/
namespace Sym
open Go

def minS (a b : U) : U := if b.val < a.val then b else a

theorem K0_two : ∃ k, K0 = k + 2 := ⟨2 ^ 64 - 2, by rw [K0_eq]⟩

theorem uint256_Min_eq (a b : U) : uint256_Min ((a, [b], ()), ()) = some ((minS a b, ()), ()) := by
  obtain ⟨k, hk⟩ := K0_two
  refine Wp.out (T := fun o => o = some ((minS a b, ()), ())) ?_
  unfold uint256_Min
  rw [hk]
  refine Wp.unroll ?_
  refine Wp.brnT rfl ?_
  refine Wp.brnT rfl ?_
  refine Wp.optF (uint256_Cmp_eq b a) ?_
  unfold cmpS minS
  by_cases h : b.val < a.val
  · rw [if_pos h, if_pos h]
    refine Wp.brnT rfl ?_
    refine Wp.next (Wp.unroll ?_)
    refine Wp.brnF rfl ?_
    exact rfl
  · rw [if_neg h, if_neg h]
    refine Wp.brnF ?_ ?_
    · split <;> rfl
    · refine Wp.next (Wp.unroll ?_)
      refine Wp.brnF rfl ?_
      exact rfl

def gasS (t : U × U) (base : U) : U × I .i64 :=
  if base.val ≤ t.1.val then (U.of (base.val + min t.2.val (t.1.val - base.val)), I.of .i64 0) else (U.of 0, I.of .i64 12)

theorem neb00 : I.neb (I.of .i64 0) (I.of .i64 0) = false := rfl
theorem neb40 : I.neb (I.of .i64 4) (I.of .i64 0) = true := rfl

theorem minS_val (a b : U) : (minS a b).val = min a.val b.val := by
  unfold minS
  split <;> omega

theorem txfee_GasPrice_eq (f1 f2 f3 f5 f8 f9) (v c t base : U) : txfee_GasPrice (((f1, f2, f3, v, f5, c, t, f8, f9, ()), base, ()), ()) = some (((gasS (c, t) base).1, (gasS (c, t) base).2, ()), ()) := by
  refine Wp.out (T := fun o => o = some (((gasS (c, t) base).1, (gasS (c, t) base).2, ()), ())) ?_
  unfold txfee_GasPrice gasS
  refine Wp.optF (uint256_Sub_eq c base) ?_
  unfold subS
  by_cases h : base.val ≤ c.val
  · have hc := c.lt
    rw [if_pos h, if_pos h]
    refine Wp.brnF rfl ?_
    refine Wp.optF (uint256_Min_eq t _) ?_
    refine Wp.optF (uint256_Add_eq base _) ?_
    have e : (minS t (U.of (c.val - base.val))).val = min t.val (c.val - base.val) := by
      rw [minS_val, U.val_of (by omega)]
    have h2 : base.val + min t.val (c.val - base.val) < U.top := by omega
    show _ = _
    dsimp only
    have h3 : addS base (minS t (U.of (c.val - base.val))) = (U.of (base.val + min t.val (c.val - base.val)), I.of .i64 0) := by
      unfold addS
      rw [e, if_pos h2]
    rw [h3]
    rfl
  · rw [if_neg h, if_neg h]
    refine Wp.brnT rfl ?_
    rfl

theorem pontagelaw23_awake_eq : pontagelaw23_awake ((), ()) = some ((true, ()), ()) := by
  refine Wp.out (T := fun o => o = some ((true, ()), ())) ?_
  unfold pontagelaw23_awake
  refine Wp.optF (txfee_GasPrice_eq _ _ _ _ _ _ _ _ _ _) ?_
  refine Wp.optF (txfee_GasPrice_eq _ _ _ _ _ _ _ _ _ _) ?_
  refine Wp.brnT (by kernel_rfl) ?_
  refine Wp.brnT (by kernel_rfl) ?_
  show _ = _
  kernel_rfl

end Sym

/- The law of the charge's total. -/
namespace Sym
open Go

theorem K0_four : ∃ k, K0 = k + 4 := ⟨2 ^ 64 - 4, by rw [K0_eq]⟩

theorem errS_lt {n : Nat} (h : n < U.top) : errS n = (U.of n, I.of .i64 0) := if_pos h
theorem errS_ge {n : Nat} (h : U.top ≤ n) : errS n = (U.of 0, I.of .i64 4) := if_neg (by omega)

theorem add_errS (a b : U) : addS a b = errS (a.val + b.val) := rfl

theorem Add_errS (a b : U) : uint256_Add ((a, b, ()), ()) = some (((errS (a.val + b.val)).1, (errS (a.val + b.val)).2, ()), ()) := uint256_Add_eq a b
theorem Add_errS' {m : Nat} (h : m < U.top) (b : U) : uint256_Add ((U.of m, b, ()), ()) = some (((errS (m + b.val)).1, (errS (m + b.val)).2, ()), ()) := by
  have := Add_errS (U.of m) b
  rw [U.val_of h] at this
  exact this

theorem Total_eq (f1 f2 f3 f4 f5) (t p q r s : U) : txfee_Total (((f1, f2, f3, f4, f5, t, p, q, r, s, ()), ()), ()) = some (((errS (p.val + q.val + r.val + s.val)).1, (errS (p.val + q.val + r.val + s.val)).2, ()), ()) := by
  obtain ⟨k, hk⟩ := K0_four
  refine Wp.out (T := fun o => o = some (((errS (p.val + q.val + r.val + s.val)).1, (errS (p.val + q.val + r.val + s.val)).2, ()), ())) ?_
  unfold txfee_Total
  rw [hk]
  refine Wp.unroll (Wp.brnT rfl (Wp.brnT rfl ?_))
  refine Wp.optF (Add_errS p q) ?_
  by_cases h1 : p.val + q.val < U.top
  · rw [errS_lt h1]
    refine Wp.brnF rfl (Wp.next (Wp.unroll (Wp.brnT rfl (Wp.brnT rfl ?_))))
    refine Wp.optF (Add_errS' h1 r) ?_
    by_cases h2 : p.val + q.val + r.val < U.top
    · rw [errS_lt h2]
      refine Wp.brnF rfl (Wp.next (Wp.unroll (Wp.brnT rfl (Wp.brnT rfl ?_))))
      refine Wp.optF (Add_errS' h2 s) ?_
      by_cases h3 : p.val + q.val + r.val + s.val < U.top
      · rw [errS_lt h3]
        refine Wp.brnF rfl (Wp.next (Wp.unroll (Wp.brnF rfl (Wp.stop rfl))))
      · rw [errS_ge (by omega)]
        exact Wp.brnT rfl (Wp.stop rfl)
    · rw [errS_ge (by omega), errS_ge (by omega)]
      exact Wp.brnT rfl (Wp.stop rfl)
  · rw [errS_ge (by omega), errS_ge (by omega)]
    exact Wp.brnT rfl (Wp.stop rfl)

theorem len_small {l : List Dg} {n : Nat} (h : IsB l n) (k : Nat) (hn : n < 65536 ^ k) (hk : k ≤ 1000000) : l.length ≤ 1000000 := Nat.le_trans (h.len.2 hn) hk
theorem top_pow : U.top = 65536 ^ 16 := by decide
theorem len_U {l : List Dg} {a : U} (h : IsB l a.val) : l.length ≤ 1000000 := len_small h 16 (by rw [← top_pow]; exact a.lt) (by decide)

theorem RefTotal_eq (f1 f2 f3 f4 f5) (t p q r s : U) : pontageref23_Total (((f1, f2, f3, f4, f5, t, p, q, r, s, ()), ()), ()) = some (((errS (p.val + q.val + r.val + s.val)).1, (errS (p.val + q.val + r.val + s.val)).2, ()), ()) := by
  have hp := p.lt
  have hq := q.lt
  have hr := r.lt
  have hs := s.lt
  have hb : 4 * U.top < 65536 ^ 17 := by decide
  refine Wp.out (T := fun o => o = some (((errS (p.val + q.val + r.val + s.val)).1, (errS (p.val + q.val + r.val + s.val)).2, ()), ())) ?_
  unfold pontageref23_Total
  obtain ⟨lp, ep, bp⟩ := FromUint256_ok p
  obtain ⟨lq, eq, bq⟩ := FromUint256_ok q
  obtain ⟨lr, er, br⟩ := FromUint256_ok r
  obtain ⟨ls, es, bs⟩ := FromUint256_ok s
  refine Wp.optF ep (Wp.optF eq ?_)
  obtain ⟨l1, e1, b1⟩ := Add_ok bp bq (len_U bp) (len_U bq)
  refine Wp.optF e1 (Wp.optF er (Wp.optF es ?_))
  obtain ⟨l2, e2, b2⟩ := Add_ok br bs (len_U br) (len_U bs)
  refine Wp.optF e2 ?_
  obtain ⟨l3, e3, b3⟩ := Add_ok b1 b2 (len_small b1 17 (by omega) (by decide)) (len_small b2 17 (by omega) (by decide))
  refine Wp.optF e3 ?_
  have hl := len_small b3 17 (by omega) (by decide)
  refine Wp.optF (Checked_ok' b3 hl) ?_
  show _ = _
  rw [show p.val + q.val + (r.val + s.val) = p.val + q.val + r.val + s.val by omega]
  rfl

theorem eqb_self (a : U) : Ty.eqb (.arr 4 (.int .u64)) a a = true := by rw [eqb_u256]; simp
theorem I.eqb_self {k : IntKind} (a : I k) : I.eqb a a = true := by simp [I.eqb]

theorem sum_law (f1 f2 f3 f4 f5) (t p q r s : U) (b0 b1 b2 b3 : I .u64) : pontagelaw23_TxFeeSum (((f1, f2, f3, f4, f5, t, p, q, r, s, ()), (b0, b1, b2, b3, ()), ()), ()) = some ((true, ()), ()) := by
  refine Wp.out (T := fun o => o = some ((true, ()), ())) ?_
  unfold pontagelaw23_TxFeeSum
  refine Wp.optF (Total_eq _ _ _ _ _ _ _ _ _ _) ?_
  refine Wp.optF (RefTotal_eq _ _ _ _ _ _ _ _ _ _) ?_
  refine Wp.optF (Total_eq _ _ _ _ _ _ _ _ _ _) ?_
  refine Wp.optF (RefTotal_eq _ _ _ _ _ _ _ _ _ _) ?_
  refine Wp.brnT (eqb_self _) (Wp.brnT (I.eqb_self _) (Wp.brnT (eqb_self _) (Wp.brnT (I.eqb_self _) ?_)))
  exact Wp.optF pontagelaw23_awake_eq rfl
end Sym

/- Products of 512 bits and shares of them. -/
namespace Sym
open Go

/-- The number of n limbs. -/
def av : (n : Nat) → Arr (I .u64) n → Nat
  | 0, _ => 0
  | n + 1, x => x.1.nat + W64 * av n x.2

def lb (n : Nat) (x : Arr (I .u64) n) (i : Nat) : Nat := (Arr.sel (I.of .u64 0) n x i).nat

theorem av_upd : ∀ (n : Nat) (x : Arr (I .u64) n) (i : Nat) (z : I .u64), i < n → av n (Arr.upd n x i z) + W64 ^ i * lb n x i = av n x + W64 ^ i * z.nat
  | 0, _, i, _, h => by omega
  | n + 1, x, 0, z, _ => by
    show z.nat + W64 * av n x.2 + W64 ^ 0 * x.1.nat = x.1.nat + W64 * av n x.2 + W64 ^ 0 * z.nat
    rw [Nat.pow_zero]; omega
  | n + 1, x, i + 1, z, h => by
    have ih := av_upd n x.2 i z (by omega)
    show x.1.nat + W64 * av n (Arr.upd n x.2 i z) + W64 ^ (i + 1) * lb n x.2 i = x.1.nat + W64 * av n x.2 + W64 ^ (i + 1) * z.nat
    rw [Nat.pow_succ, Nat.mul_comm (W64 ^ i) W64, Nat.mul_assoc, Nat.mul_assoc, Nat.add_assoc, ← Nat.mul_add, ih, Nat.mul_add, ← Nat.add_assoc]

theorem lb_upd : ∀ (n : Nat) (x : Arr (I .u64) n) (i j : Nat) (z : I .u64), i ≠ j → lb n (Arr.upd n x i z) j = lb n x j
  | 0, _, _, _, _, _ => rfl
  | n + 1, x, 0, 0, z, h => absurd rfl h
  | n + 1, x, 0, j + 1, z, h => rfl
  | n + 1, x, i + 1, 0, z, h => rfl
  | n + 1, x, i + 1, j + 1, z, h => lb_upd n x.2 i j z (by omega)

theorem lb_lt (n : Nat) (x : Arr (I .u64) n) (i : Nat) : lb n x i < W64 := nat_lt _

abbrev A8 : Type := I .u64 × I .u64 × I .u64 × I .u64 × I .u64 × I .u64 × I .u64 × I .u64 × Unit

def lo4 (p : A8) : U := Arr.ofList (I.of .u64 0) 4 (subL (Arr.list 8 p) 0 4)
def hi4 (p : A8) : U := Arr.ofList (I.of .u64 0) 4 (subL (Arr.list 8 p) 4 4)

theorem split8 (p : A8) : U.val (lo4 p) + U.top * U.val (hi4 p) = av 8 p := by
  obtain ⟨p0, p1, p2, p3, p4, p5, p6, p7, ⟨⟩⟩ := p
  show U.val (p0, p1, p2, p3, ()) + U.top * U.val (p4, p5, p6, p7, ()) = p0.nat + W64 * (p1.nat + W64 * (p2.nat + W64 * (p3.nat + W64 * (p4.nat + W64 * (p5.nat + W64 * (p6.nat + W64 * (p7.nat + W64 * 0)))))))
  unfold U.val U.top W64
  simp only
  omega

set_option maxHeartbeats 2000000 in
theorem Mul512_ok (a b : U) : ∃ l h : U, muldiv_Mul ((a, b, ()), ()) = some ((l, h, ()), ()) ∧ l.val + U.top * h.val = a.val * b.val := by
  have c0 : (I.of .i64 0).val = 0 := rfl
  have c1 : (I.of .i64 1).val = 1 := rfl
  have c4 : (I.of .i64 4).val = 4 := rfl
  have key : Wp (fun o => ∃ l h : U, o = some ((l, h, ()), ()) ∧ l.val + U.top * h.val = a.val * b.val) (muldiv_Mul ((a, b, ()), ())) := by
    unfold muldiv_Mul
    refine Wp.iter (fun x => 0 ≤ x.1.1.val ∧ x.1.1.val ≤ 4 ∧ x.2.1 = a ∧ x.2.2.1 = b ∧ av 8 x.2.2.2.2.2.1 = (a.val % W64 ^ x.1.1.val.toNat) * b.val ∧ ∀ j, x.1.1.val.toNat + 4 ≤ j → j < 8 → lb 8 x.2.2.2.2.2.1 j = 0) (fun x => (4 - x.1.1.val).toNat) ?_ ?_ ?_
    · rintro ⟨⟨i, ⟨⟩⟩, a', b', l0, h0, p0, ⟨⟩⟩ ⟨hi0, hi1, e1, e2, hp, hz⟩
      simp only at hi0 hi1 e1 e2 hp hz
      subst e1 e2
      refine Wp.brn (fun h => ?_) (fun h => ?_)
      · have hlt := iff_ltb.1 h
        simp only [c4] at hlt
        clear h
        have si : (I.add i (I.of .i64 1)).val = i.val + 1 := by rw [add_i64 (by omega)]; omega
        have sin : (I.add i (I.of .i64 1)).val.toNat = i.val.toNat + 1 := by omega
        have ini : inB i 4 = true := iff_inB.2 ⟨hi0, by omega⟩
        refine Wp.iter (fun x => x.1.1 = i ∧ x.1.2.2.1 = i ∧ 0 ≤ x.1.2.2.2.1.val ∧ x.1.2.2.2.1.val ≤ 4 ∧ x.2.1 = a' ∧ x.2.2.1 = b' ∧
          av 8 x.2.2.2.2.2.1 + I.nat (k := .u64) x.1.2.1 * W64 ^ (i.val.toNat + x.1.2.2.2.1.val.toNat) = (U.val a' % W64 ^ i.val.toNat) * U.val b' + limb' a' i.val.toNat * W64 ^ i.val.toNat * (U.val b' % W64 ^ x.1.2.2.2.1.val.toNat) ∧
          ∀ j, i.val.toNat + 4 ≤ j → j < 8 → lb 8 x.2.2.2.2.2.1 j = 0) (fun x => (4 - x.1.2.2.2.1.val).toNat) ?_ ?_ ?_
        · rintro ⟨⟨i2, c, i1, k, ⟨⟩⟩, a1, b1, l1, h1, p, ⟨⟩⟩ ⟨e1, e2, hk0, hk1, e3, e4, hinv, hz1⟩
          simp only at e1 e2 hk0 hk1 e3 e4 hinv hz1
          subst e1 e2 e3 e4
          refine Wp.brn (fun h => ?_) (fun h => ?_)
          · have hkl := iff_ltb.1 h
            simp only [c4] at hkl
            clear h
            have sk : (I.add k (I.of .i64 1)).val = k.val + 1 := by rw [add_i64 (by omega)]; omega
            have skn : (I.add k (I.of .i64 1)).val.toNat = k.val.toNat + 1 := by omega
            have sik : (I.add i1 k).val = i1.val + k.val := add_i64 (by omega)
            have hm : (4 - (I.add k (I.of .i64 1)).val).toNat < (4 - k.val).toNat := by omega
            have bmod := limb_mod b1 k.val.toNat (by omega)
            refine Wp.brnT ini (Wp.brnT (iff_inB.2 ⟨hk0, by show k.val < ((4 : Nat) : Int); omega⟩) ?_)
            obtain ⟨hi, lo, hmul, hprod⟩ := Mul64_ok (Arr.sel (I.of .u64 0) 4 a1 (I.nat i1)) (Arr.sel (I.of .u64 0) 4 b1 (I.nat k))
            have hprod : lo.nat + W64 * hi.nat = limb' a1 i1.val.toNat * limb' b1 k.val.toNat := hprod
            refine Wp.optF hmul ?_
            have inik : inB (I.add i1 k) 8 = true := iff_inB.2 ⟨by omega, by omega⟩
            obtain ⟨z1, q1, ha1, hs1, hq1⟩ := add64_nat lo c (I.of .u64 0) (by decide)
            refine Wp.optF ha1 ?_
            refine Wp.brnT inik ?_
            obtain ⟨z2, q2, ha2, hs2, hq2⟩ := add64_nat (Arr.sel (I.of .u64 0) 8 p (I.nat (I.add i1 k))) z1 (I.of .u64 0) (by decide)
            refine Wp.optF ha2 ?_
            refine Wp.brnT inik ?_
            have z0 : (I.of .u64 0).nat = 0 := rfl
            have en : I.nat (I.add i1 k) = i1.val.toNat + k.val.toNat := by unfold I.nat; omega
            have hup := av_upd 8 p (i1.val.toNat + k.val.toNat) z2 (by omega)
            have hs2' : z2.nat + W64 * q2.nat = lb 8 p (i1.val.toNat + k.val.toNat) + z1.nat := by
              have : (Arr.sel (I.of .u64 0) 8 p (I.nat (I.add i1 k))).nat = lb 8 p (i1.val.toNat + k.val.toNat) := by rw [en]; rfl
              unfold W64
              omega
            have hcv : (I.add (I.add hi q1) q2).nat = hi.nat + q1.nat + q2.nat := by
              have l1 := limb_lt a1 i1.val.toNat
              have l2 := limb_lt b1 k.val.toNat
              have l3 := lb_lt 8 p (i1.val.toNat + k.val.toNat)
              have l4 := nat_lt c
              have l5 : limb' a1 i1.val.toNat * limb' b1 k.val.toNat ≤ (W64 - 1) * (W64 - 1) := Nat.mul_le_mul (by omega) (by omega)
              rw [add_nat, add_nat]
              unfold W64 at *
              omega
            refine Wp.again ⟨rfl, rfl, ?_, ?_, rfl, rfl, ?_, ?_⟩ hm
            · show 0 ≤ (I.add k (I.of .i64 1)).val; omega
            · show (I.add k (I.of .i64 1)).val ≤ 4; omega
            · show av 8 (Arr.upd 8 p (I.nat (I.add i1 k)) z2) + (I.add (I.add hi q1) q2).nat * W64 ^ (i1.val.toNat + (I.add k (I.of .i64 1)).val.toNat) = _ + _ * (U.val b1 % W64 ^ (I.add k (I.of .i64 1)).val.toNat)
              rw [skn, bmod, en]
              exact mul_round hinv hprod (by unfold W64; omega) hs2' hcv hup
            · intro j hj1 hj2
              show lb 8 (Arr.upd 8 p (I.nat (I.add i1 k)) z2) j = 0
              rw [en, lb_upd 8 p _ j z2 (by omega)]
              exact hz1 j hj1 hj2
          · have h := niff_ltb.1 h
            simp only [c4] at h
            have hk : k.val.toNat = 4 := by omega
            rw [hk, top_W, Nat.mod_eq_of_lt (U.lt b1)] at hinv
            have amod := limb_mod a1 i1.val.toNat (by omega)
            have si4 : (I.add i1 (I.of .i64 4)).val = i1.val + 4 := by rw [add_i64 (by omega)]; omega
            have en : I.nat (I.add i1 (I.of .i64 4)) = i1.val.toNat + 4 := by unfold I.nat; omega
            have hup := av_upd 8 p (i1.val.toNat + 4) c (by omega)
            rw [hz1 _ (Nat.le_refl _) (by omega), Nat.mul_zero, Nat.add_zero] at hup
            refine Wp.done ?_
            have in8 : inB (I.add i1 (I.of .i64 4)) 8 = true := iff_inB.2 ⟨by omega, by omega⟩
            refine Wp.brnT in8 ?_
            refine Wp.again ⟨?_, ?_, rfl, rfl, ?_, ?_⟩ ?_
            · show 0 ≤ (I.add i1 (I.of .i64 1)).val; omega
            · show (I.add i1 (I.of .i64 1)).val ≤ 4; omega
            · show av 8 (Arr.upd 8 p (I.nat (I.add i1 (I.of .i64 4))) c) = U.val a1 % W64 ^ (I.add i1 (I.of .i64 1)).val.toNat * U.val b1
              rw [en, hup, sin, Nat.mul_comm (W64 ^ _) c.nat, hinv, amod, Nat.add_mul]
              congr 1
              simp only [Nat.mul_comm, Nat.mul_left_comm, Nat.mul_assoc]
            · intro j hj1 hj2
              replace hj1 : (I.add i1 (I.of .i64 1)).val.toNat + 4 ≤ j := hj1
              show lb 8 (Arr.upd 8 p (I.nat (I.add i1 (I.of .i64 4))) c) j = 0
              rw [en, lb_upd 8 p _ j c (by omega)]
              exact hz1 j (by omega) hj2
            · show (4 - (I.add i1 (I.of .i64 1)).val).toNat < (4 - i1.val).toNat
              omega
        · refine ⟨rfl, rfl, by show 0 ≤ (I.of .i64 0).val; decide, by show (I.of .i64 0).val ≤ 4; decide, rfl, rfl, ?_, hz⟩
          show av 8 p0 + (I.of .u64 0).nat * _ = _ + _ * (U.val b' % W64 ^ (I.of .i64 0).val.toNat)
          have e1 : (I.of .u64 0).nat = 0 := rfl
          have e2 : (I.of .i64 0).val.toNat = 0 := rfl
          rw [e1, e2, Nat.zero_mul, Nat.pow_zero, Nat.mod_one, Nat.mul_zero, hp]
        · exact K0_ge _ (by show (4 - (I.of .i64 0).val).toNat < _; decide)
      · have h := niff_ltb.1 h
        simp only [c4] at h
        have hi : i.val.toNat = 4 := by omega
        rw [hi, top_W, Nat.mod_eq_of_lt (U.lt a')] at hp
        refine Wp.done ?_
        exact ⟨lo4 p0, hi4 p0, rfl, (split8 p0).trans hp⟩
    · refine ⟨by show 0 ≤ (I.of .i64 0).val; decide, by show (I.of .i64 0).val ≤ 4; decide, rfl, rfl, ?_, ?_⟩
      · show av 8 (I.of .u64 0, I.of .u64 0, I.of .u64 0, I.of .u64 0, I.of .u64 0, I.of .u64 0, I.of .u64 0, I.of .u64 0, ()) = (a.val % W64 ^ (I.of .i64 0).val.toNat) * b.val
        have e2 : (I.of .i64 0).val.toNat = 0 := rfl
        rw [e2, Nat.pow_zero, Nat.mod_one, Nat.zero_mul]
        rfl
      · intro j hj1 hj2
        show lb 8 (I.of .u64 0, I.of .u64 0, I.of .u64 0, I.of .u64 0, I.of .u64 0, I.of .u64 0, I.of .u64 0, I.of .u64 0, ()) j = 0
        match j, hj2 with
        | 0, _ => rfl
        | 1, _ => rfl
        | 2, _ => rfl
        | 3, _ => rfl
        | 4, _ => rfl
        | 5, _ => rfl
        | 6, _ => rfl
        | 7, _ => rfl
        | j + 8, h => omega
    · exact K0_ge _ (by show (4 - (I.of .i64 0).val).toNat < _; decide)
  exact key.out

/-- A share: n * b / c, where it is smaller than n. -/
theorem MulDiv_ok (a b c : U) (hc : c.val ≠ 0) (hb : b.val ≤ c.val) : muldiv_MulDivFloor ((a, b, c, ()), ()) = some ((U.of (a.val * b.val / c.val), I.of .i64 0, ()), ()) := by
  have key : Wp (fun o => o = some ((U.of (a.val * b.val / c.val), I.of .i64 0, ()), ())) (muldiv_MulDivFloor ((a, b, c, ()), ())) := by
    unfold muldiv_MulDivFloor
    obtain ⟨l, h, hm, hv⟩ := Mul512_ok a b
    refine Wp.optF hm ?_
    have hlt : h.val < c.val := by
      have h1 : a.val * b.val ≤ a.val * c.val := Nat.mul_le_mul_left _ hb
      have h2 : a.val * c.val < U.top * c.val := Nat.mul_lt_mul_of_pos_right a.lt (by omega)
      have h3 : U.top * h.val < U.top * c.val := by omega
      exact Nat.lt_of_mul_lt_mul_left h3
    refine Wp.optF (Div512_loop l h c hlt) ?_
    rw [show U.top * h.val + l.val = a.val * b.val by omega]
    rfl
  exact key.out

theorem nat_10000 : (u64U (I.of .u64 10000)).val = 10000 := rfl

theorem Scale_ok (n : U) (b : I .u64) (hb : b.nat ≤ 10000) : bips_Scale ((n, b, ()), ()) = some ((U.of (n.val * b.nat / 10000), I.of .i64 0, ()), ()) := by
  have key : Wp (fun o => o = some ((U.of (n.val * b.nat / 10000), I.of .i64 0, ()), ())) (bips_Scale ((n, b, ()), ())) := by
    unfold bips_Scale
    refine Wp.optF (u256_FromUint64 b) (Wp.optF (u256_FromUint64 _) ?_)
    have h := MulDiv_ok n (u64U b) (u64U (I.of .u64 10000)) (by rw [nat_10000]; decide) (by rw [nat_10000, u64U_val]; exact hb)
    rw [nat_10000, u64U_val] at h
    exact Wp.optF h rfl
  exact key.out

theorem share_le (n b : Nat) (hb : b ≤ 10000) : n * b / 10000 ≤ n := by
  have h1 : n * b ≤ n * 10000 := Nat.mul_le_mul_left _ hb
  exact Nat.div_le_of_le_mul (by rw [Nat.mul_comm 10000 n]; exact h1)

theorem Split_ok (n : U) (b : I .u64) (hb : b.nat ≤ 10000) : bips_Split ((n, b, ()), ()) = some ((U.of (n.val * b.nat / 10000), U.of (n.val - n.val * b.nat / 10000), I.of .i64 0, ()), ()) := by
  have key : Wp (fun o => o = some ((U.of (n.val * b.nat / 10000), U.of (n.val - n.val * b.nat / 10000), I.of .i64 0, ()), ())) (bips_Split ((n, b, ()), ())) := by
    unfold bips_Split
    refine Wp.brnF ?_ ?_
    · rw [niff_ltb]
      have := nat_val b
      show b.val ≤ 10000
      omega
    refine Wp.optF (Scale_ok n b hb) (Wp.brnF rfl ?_)
    have hs := SatSub_ok n (U.of (n.val * b.nat / 10000))
    rw [U.val_of (Nat.lt_of_le_of_lt (share_le _ _ hb) n.lt)] at hs
    exact Wp.optF hs rfl
  exact key.out

theorem UUint64_eq (a : U) : uint256_Uint64 ((a, ()), ()) = some (if a.val < 18446744073709551616 then ((a.1, true, ()), ()) else ((I.of .u64 0, false, ()), ())) := by
  refine Wp.out (T := fun o => o = some (if a.val < 18446744073709551616 then ((a.1, true, ()), ()) else ((I.of .u64 0, false, ()), ()))) ?_
  have h0 := nat_lt a.1
  have hv : a.val = a.1.nat + 18446744073709551616 * (a.2.1.nat + 18446744073709551616 * (a.2.2.1.nat + 18446744073709551616 * a.2.2.2.1.nat)) := rfl
  have or_nat : ∀ x y : I .u64, (I.or x y).nat = 0 ↔ x.nat = 0 ∧ y.nat = 0 := by
    intro x y
    have h := or_zero x y
    rw [niff_neb] at h
    have h1 := nat_val (I.or x y)
    have e0 : (I.of .u64 0).val = 0 := rfl
    rw [e0] at h
    constructor
    · intro h2; exact h.1 (by omega)
    · intro h2; have := h.2 h2; omega
  unfold uint256_Uint64
  refine Wp.brn (fun h => ?_) (fun h => ?_)
  · rw [if_neg ?_]
    · rfl
    · intro hlt
      have h1 : a.2.1.nat = 0 := by omega
      have h2 : a.2.2.1.nat = 0 := by omega
      have h3 : a.2.2.2.1.nat = 0 := by omega
      have := (or_zero (I.or a.2.1 a.2.2.1) a.2.2.2.1).2 ⟨(or_nat _ _).2 ⟨h1, h2⟩, h3⟩
      exact absurd (h.symm.trans this) (by decide)
  · have h1 := (or_zero (I.or a.2.1 a.2.2.1) a.2.2.2.1).1 h
    have h2 := (or_nat _ _).1 h1.1
    rw [if_pos (by omega)]
    rfl
end Sym

/- Sums that stop at the top; numbers by shape. -/
namespace Sym
open Go

theorem pontagelaw0_Mod_ok (x n : I .i64) (h : 0 < n.val) : ∃ y : I .i64, pontagelaw0_Mod ((x, n, ()), ()) = some ((y, ()), ()) ∧ 0 ≤ y.val ∧ y.val < n.val := by
  have hn := i64_range n
  have e : (I.conv .u64 n).val = n.val := of_u64 ⟨by omega, by omega⟩
  have hx := u64_range (I.conv .u64 x)
  have er : (I.rem (I.conv .u64 x) (I.conv .u64 n)).val = (I.conv .u64 x).val % n.val := by rw [rem_u64 (by omega), e]
  have h3 := Int.emod_nonneg (I.conv .u64 x).val (b := n.val) (by omega)
  have h4 := Int.emod_lt_of_pos (I.conv .u64 x).val (b := n.val) (by omega)
  have ec : (I.conv .i64 (I.rem (I.conv .u64 x) (I.conv .u64 n))).val = (I.conv .u64 x).val % n.val := by
    show (I.of .i64 _).val = _
    rw [er]
    exact of_i64 ⟨by omega, by omega⟩
  refine ⟨I.conv .i64 (I.rem (I.conv .u64 x) (I.conv .u64 n)), ?_, by omega, by omega⟩
  refine Wp.out (T := fun o => o = _) ?_
  unfold pontagelaw0_Mod
  refine Wp.brnT (iff_nz.2 ?_) rfl
  show (I.conv .u64 n).val ≠ 0
  omega

theorem pontagelaw0_EdgeUint256_ok (a b : I .u64) (c : I .i64) : ∃ y, pontagelaw0_EdgeUint256 ((a, b, c, ()), ()) = some y := by
  refine Wp.out (T := fun o => ∃ y, o = some y) ?_
  unfold pontagelaw0_EdgeUint256
  obtain ⟨y, hy, _⟩ := pontagelaw0_Mod_ok c (I.of .i64 9) (by decide)
  refine Wp.optF hy ?_
  repeat' (first | exact ⟨_, rfl⟩ | refine Wp.brn (fun _ => ?_) (fun _ => ?_))
  · rename_i h
    have h2 := nn_u64 (I.rem b (I.of .u64 64))
    exact absurd (h2.symm.trans h) (by decide)

theorem uint256_SaturatingAdd_ok (a b : U) : uint256_SaturatingAdd ((a, b, ()), ()) = some ((U.of (min (a.val + b.val) (U.top - 1)), ()), ()) := by
  refine Wp.out (T := fun o => o = some ((U.of (min (a.val + b.val) (U.top - 1)), ()), ())) ?_
  unfold uint256_SaturatingAdd
  refine Wp.optF (uint256_Add_eq a b) ?_
  unfold addS
  have ha := a.lt
  by_cases h : a.val + b.val < U.top
  · rw [if_pos h]
    refine Wp.brnT rfl ?_
    show _ = _
    rw [Nat.min_eq_left (by omega)]
    rfl
  · rw [if_neg h]
    refine Wp.brnF rfl ?_
    refine Wp.optF rfl ?_
    show _ = _
    rw [Nat.min_eq_right (by omega)]
    kernel_rfl
end Sym

/- The law of the gas price's bounds: bytes, numbers, the law. -/
namespace Sym
open Go

theorem app_one_len {X : Type} (l : List X) (x : X) : (appL l [x]).length = l.length + 1 := by simp [appL]

theorem RepetitiveBytes_ok (v : List (I .i64)) (hv : v.length ≤ 1000) : ∃ out : List (I .u8), pontagelaw0_RepetitiveBytes ((v, ()), ()) = some ((out, ()), ()) ∧ out.length ≤ 24 * v.length := by
  have key : Wp (fun o => ∃ out : List (I .u8), o = some ((out, ()), ()) ∧ out.length ≤ 24 * v.length) (pontagelaw0_RepetitiveBytes ((v, ()), ())) := by
    have c1 : (I.of .i64 1).val = 1 := rfl
    have c8 : (I.of .i64 8).val = 8 := rfl
    have c24 : (I.of .i64 24).val = 24 := rfl
    have c64 : (I.of .i64 64).val = 64 := rfl
    have c20 : (I.of .i64 1048576).val = 1048576 := rfl
    have c0 : (I.of .i64 0).val = 0 := rfl
    have hlen : (I.ofNat .i64 (lenL v)).val = v.length := ofNat_i64 (by show v.length < _; omega)
    unfold pontagelaw0_RepetitiveBytes
    refine Wp.iter (fun x => x.1.1 = v ∧ 0 ≤ x.1.2.1.val ∧ x.1.2.1.val ≤ (v.length : Int) ∧ (x.2.1.length : Int) ≤ 24 * x.1.2.1.val) (fun x => ((v.length : Int) - x.1.2.1.val).toNat) ?_ ?_ ?_
    · rintro ⟨⟨l, i, ⟨⟩⟩, out, ⟨⟩⟩ ⟨hl, hi0, hi1, ho⟩
      simp only at hl hi0 hi1 ho
      subst hl
      refine Wp.brn (fun h => ?_) (fun h => ?_)
      · have h := iff_ltb.1 h
        simp only [hlen] at h
        have hstep : (I.add i (I.of .i64 1)).val = i.val + 1 := by rw [add_i64 (by omega)]; omega
        refine Wp.brnT (iff_inB.2 ⟨hi0, by simpa [lenL] using h⟩) ?_
        obtain ⟨y, hy, hy0, hy1⟩ := pontagelaw0_Mod_ok (rdL (I.of .i64 0) l (I.nat i)) (I.of .i64 1048576) (by decide)
        refine Wp.optF hy ?_
        have q8 : (I.quo y (I.of .i64 8)).val = y.val / 8 := quo_i64 hy0 (by decide)
        have r24 : (I.rem (I.quo y (I.of .i64 8)) (I.of .i64 24)).val = y.val / 8 % 24 := by rw [rem_i64 (by omega) (by decide), q8]; rfl
        have hn : (I.add (I.of .i64 1) (I.rem (I.quo y (I.of .i64 8)) (I.of .i64 24))).val = 1 + y.val / 8 % 24 := by rw [add_i64 (by omega)]; omega
        have hn2 : 1 ≤ (I.add (I.of .i64 1) (I.rem (I.quo y (I.of .i64 8)) (I.of .i64 24))).val ∧ (I.add (I.of .i64 1) (I.rem (I.quo y (I.of .i64 8)) (I.of .i64 24))).val ≤ 24 := by omega
        generalize I.add (I.of .i64 1) (I.rem (I.quo y (I.of .i64 8)) (I.of .i64 24)) = n at hn2
        refine Wp.jn (fun x => x.1.1 = l ∧ x.1.2.1 = i ∧ x.1.2.2.1 = y ∧ x.1.2.2.2.1 = n ∧ x.2.1 = out) ?_ ?_
        · rintro ⟨⟨l', i', y', n', m, b, ⟨⟩⟩, out', ⟨⟩⟩ ⟨e1, e2, e3, e4, e5⟩
          simp only at e1 e2 e3 e4 e5
          subst e1 e2 e3 e4 e5
          refine Wp.brn (fun _ => ?_) (fun _ => ?_)
          · refine Wp.iter (fun x => x.1.1 = l' ∧ x.1.2.1 = i' ∧ x.1.2.2.2.1 = n' ∧ 0 ≤ x.1.2.2.2.2.1.val ∧ x.1.2.2.2.2.1.val ≤ n'.val ∧ (x.2.1.length : Int) ≤ 24 * i'.val + x.1.2.2.2.2.1.val) (fun x => (n'.val - x.1.2.2.2.2.1.val).toNat) ?_ ⟨rfl, rfl, rfl, by show 0 ≤ (I.of .i64 0).val; decide, by show (I.of .i64 0).val ≤ n'.val; omega, by show (out'.length : Int) ≤ 24 * i'.val + (I.of .i64 0).val; omega⟩ (by rw [K0_eq]; show (n'.val - (I.of .i64 0).val).toNat < _; omega)
            rintro ⟨⟨l2, i2, y2, n2, j, ⟨⟩⟩, out2, ⟨⟩⟩ ⟨e1, e2, e3, hj0, hj1, ho2⟩
            simp only at e1 e2 e3 hj0 hj1 ho2
            subst e1 e2 e3
            refine Wp.brn (fun h => ?_) (fun h => ?_)
            · have h := iff_ltb.1 h
              simp only at h
              have hj : (I.add j (I.of .i64 1)).val = j.val + 1 := by rw [add_i64 (by omega)]; omega
              refine Wp.brnT (iff_fits.2 ?_) ?_
              · show (appL out2 [_]).length ≤ _
                rw [app_one_len]; omega
              · refine Wp.again ⟨rfl, rfl, rfl, ?_, ?_, ?_⟩ ?_
                · show 0 ≤ (I.add j (I.of .i64 1)).val; omega
                · show (I.add j (I.of .i64 1)).val ≤ _; omega
                · show ((appL out2 [_]).length : Int) ≤ _ + (I.add j (I.of .i64 1)).val
                  rw [app_one_len]; omega
                · show (_ - (I.add j (I.of .i64 1)).val).toNat < _
                  simp only; omega
            · refine Wp.done (Wp.again ⟨rfl, ?_, ?_, ?_⟩ ?_)
              · show 0 ≤ (I.add i2 (I.of .i64 1)).val; omega
              · show (I.add i2 (I.of .i64 1)).val ≤ _; omega
              · show (out2.length : Int) ≤ 24 * (I.add i2 (I.of .i64 1)).val; omega
              · show (_ - (I.add i2 (I.of .i64 1)).val).toNat < _
                simp only; omega
          · refine Wp.jn (fun x => x.1.1 = l' ∧ x.1.2.1 = i' ∧ x.1.2.2.1 = y' ∧ x.1.2.2.2.1 = n' ∧ x.2.1 = out') ?_ ?_
            · rintro ⟨⟨l3, i3, y3, n3, b3, ⟨⟩⟩, out3, ⟨⟩⟩ ⟨e1, e2, e3, e4, e5⟩
              simp only at e1 e2 e3 e4 e5
              subst e1 e2 e3 e4 e5
              refine Wp.brn (fun _ => ?_) (fun _ => ?_)
              · refine Wp.jn (fun x => x.1.1 = l3 ∧ x.1.2.1 = i3 ∧ x.1.2.2.1 = n3 ∧ x.2.1 = out3 ∧ 0 ≤ x.1.2.2.2.1.val ∧ x.1.2.2.2.1.val ≤ 24 * (l3.length : Int)) ?_ ?_
                · rintro ⟨⟨l4, i4, n4, fr, ⟨⟩⟩, out4, ⟨⟩⟩ ⟨e1, e2, e4, e5, hf0, hf1⟩
                  simp only at e1 e2 e4 e5 hf0 hf1
                  subst e1 e2 e4 e5
                  refine Wp.iter (fun x => x.1.1 = l4 ∧ x.1.2.1 = i4 ∧ x.1.2.2.1 = n4 ∧ x.1.2.2.2.1 = fr ∧ 0 ≤ x.1.2.2.2.2.1.val ∧ x.1.2.2.2.2.1.val ≤ n4.val ∧ (x.2.1.length : Int) ≤ 24 * i4.val + x.1.2.2.2.2.1.val) (fun x => (n4.val - x.1.2.2.2.2.1.val).toNat) ?_ ⟨rfl, rfl, rfl, rfl, by show 0 ≤ (I.of .i64 0).val; decide, by show (I.of .i64 0).val ≤ n4.val; omega, by show (out4.length : Int) ≤ 24 * i4.val + (I.of .i64 0).val; omega⟩ (by rw [K0_eq]; show (n4.val - (I.of .i64 0).val).toNat < _; omega)
                  rintro ⟨⟨l2, i2, n2, f2, j, ⟨⟩⟩, out2, ⟨⟩⟩ ⟨e1, e2, e3, e4, hj0, hj1, ho2⟩
                  simp only at e1 e2 e3 e4 hj0 hj1 ho2
                  subst e1 e2 e3 e4
                  have o1 : 0 ≤ (I.add i2 (I.of .i64 1)).val := by omega
                  have o2 : (I.add i2 (I.of .i64 1)).val ≤ (l2.length : Int) := by omega
                  have o3 : (out2.length : Int) ≤ 24 * (I.add i2 (I.of .i64 1)).val := by omega
                  have o4 : ((l2.length : Int) - (I.add i2 (I.of .i64 1)).val).toNat < ((l2.length : Int) - i2.val).toNat := by omega
                  refine Wp.brn (fun h => ?_) (fun h => Wp.done (Wp.again ⟨rfl, o1, o2, o3⟩ o4))
                  have h := iff_ltb.1 h
                  simp only at h
                  have hj : (I.add j (I.of .i64 1)).val = j.val + 1 := by rw [add_i64 (by omega)]; omega
                  have hfj : (I.add f2 j).val = f2.val + j.val := by rw [add_i64 (by omega)]
                  have hol : (I.ofNat .i64 (lenL out2)).val = out2.length := ofNat_i64 (by show out2.length < _; omega)
                  refine Wp.brn (fun h2 => ?_) (fun h2 => Wp.done (Wp.again ⟨rfl, o1, o2, o3⟩ o4))
                  have h2 := iff_ltb.1 h2
                  simp only [hfj, hol] at h2
                  refine Wp.brnT (iff_inB.2 ⟨by show 0 ≤ (I.add f2 j).val; omega, by show (I.add f2 j).val < (out2.length : Int); omega⟩) ?_
                  refine Wp.brnT (iff_fits.2 ?_) ?_
                  · show (appL out2 [_]).length ≤ _
                    rw [app_one_len]; omega
                  · refine Wp.again ⟨rfl, rfl, rfl, rfl, ?_, ?_, ?_⟩ ?_
                    · show 0 ≤ (I.add j (I.of .i64 1)).val; omega
                    · show (I.add j (I.of .i64 1)).val ≤ _; omega
                    · show ((appL out2 [_]).length : Int) ≤ _ + (I.add j (I.of .i64 1)).val
                      rw [app_one_len]; omega
                    · show (_ - (I.add j (I.of .i64 1)).val).toNat < _
                      simp only; omega
                · intro j4 hj4
                  have hol : (I.ofNat .i64 (lenL out3)).val = out3.length := ofNat_i64 (by show out3.length < _; omega)
                  refine Wp.brn (fun h => ?_) (fun h => ?_)
                  · have h := iff_ltb.1 h
                    simp only [hol] at h
                    refine Wp.brnT (iff_nz.2 ?_) ?_
                    · show (I.ofNat .i64 (lenL out3)).val ≠ 0
                      omega
                    · have q64 : (I.quo y3 (I.of .i64 64)).val = y3.val / 64 := quo_i64 hy0 (by decide)
                      have hr : (I.rem (I.quo y3 (I.of .i64 64)) (I.ofNat .i64 (lenL out3))).val = y3.val / 64 % out3.length := by rw [rem_i64 (by omega) (by omega), q64, hol]
                      refine hj4 _ ⟨rfl, rfl, rfl, rfl, ?_, ?_⟩
                      · show 0 ≤ (I.rem (I.quo y3 (I.of .i64 64)) (I.ofNat .i64 (lenL out3))).val
                        rw [hr]
                        exact Int.emod_nonneg _ (by omega)
                      · show (I.rem (I.quo y3 (I.of .i64 64)) (I.ofNat .i64 (lenL out3))).val ≤ _
                        rw [hr]
                        have := Int.emod_lt_of_pos (y3.val / 64) (b := (out3.length : Int)) (by omega)
                        omega
                  · refine hj4 _ ⟨rfl, rfl, rfl, rfl, ?_, ?_⟩
                    · show 0 ≤ (I.of .i64 0).val; omega
                    · show (I.of .i64 0).val ≤ _; omega
              · refine Wp.iter (fun x => x.1.1 = l3 ∧ x.1.2.1 = i3 ∧ x.1.2.2.2.1 = n3 ∧ 0 ≤ x.1.2.2.2.2.1.val ∧ x.1.2.2.2.2.1.val ≤ n3.val ∧ (x.2.1.length : Int) ≤ 24 * i3.val + x.1.2.2.2.2.1.val) (fun x => (n3.val - x.1.2.2.2.2.1.val).toNat) ?_ ⟨rfl, rfl, rfl, by show 0 ≤ (I.of .i64 0).val; decide, by show (I.of .i64 0).val ≤ n3.val; omega, by show (out3.length : Int) ≤ 24 * i3.val + (I.of .i64 0).val; omega⟩ (by rw [K0_eq]; show (n3.val - (I.of .i64 0).val).toNat < _; omega)
                rintro ⟨⟨l2, i2, y2, n2, j, ⟨⟩⟩, out2, ⟨⟩⟩ ⟨e1, e2, e3, hj0, hj1, ho2⟩
                simp only at e1 e2 e3 hj0 hj1 ho2
                subst e1 e2 e3
                refine Wp.brn (fun h => ?_) (fun h => ?_)
                · have h := iff_ltb.1 h
                  simp only at h
                  have hj : (I.add j (I.of .i64 1)).val = j.val + 1 := by rw [add_i64 (by omega)]; omega
                  refine Wp.brnT (nn_u64 _) ?_
                  refine Wp.brnT (iff_fits.2 ?_) ?_
                  · show (appL out2 [_]).length ≤ _
                    rw [app_one_len]; omega
                  · refine Wp.again ⟨rfl, rfl, rfl, ?_, ?_, ?_⟩ ?_
                    · show 0 ≤ (I.add j (I.of .i64 1)).val; omega
                    · show (I.add j (I.of .i64 1)).val ≤ _; omega
                    · show ((appL out2 [_]).length : Int) ≤ _ + (I.add j (I.of .i64 1)).val
                      rw [app_one_len]; omega
                    · show (_ - (I.add j (I.of .i64 1)).val).toNat < _
                      simp only; omega
                · refine Wp.done (Wp.again ⟨rfl, ?_, ?_, ?_⟩ ?_)
                  · show 0 ≤ (I.add i2 (I.of .i64 1)).val; omega
                  · show (I.add i2 (I.of .i64 1)).val ≤ _; omega
                  · show (out2.length : Int) ≤ 24 * (I.add i2 (I.of .i64 1)).val; omega
                  · show (_ - (I.add i2 (I.of .i64 1)).val).toNat < _
                    simp only; omega
            · intro j3 hj3
              refine Wp.brn (fun _ => hj3 _ ⟨rfl, rfl, rfl, rfl, rfl⟩) (fun _ => Wp.brn (fun _ => hj3 _ ⟨rfl, rfl, rfl, rfl, rfl⟩) (fun _ => hj3 _ ⟨rfl, rfl, rfl, rfl, rfl⟩))
        · intro j2 hj2
          exact Wp.brn (fun _ => hj2 _ ⟨rfl, rfl, rfl, rfl, rfl⟩) (fun _ => hj2 _ ⟨rfl, rfl, rfl, rfl, rfl⟩)
      · exact Wp.done ⟨out, rfl, by omega⟩
    · exact ⟨rfl, by show 0 ≤ (I.of .i64 0).val; decide, by show (I.of .i64 0).val ≤ (v.length : Int); omega, by show (([] : List (I .u8)).length : Int) ≤ 24 * (I.of .i64 0).val; simp [c0]⟩
    · rw [K0_eq]
      show ((v.length : Int) - (I.of .i64 0).val).toNat < _
      omega
  exact key.out
end Sym

/- What is built of numbers; for the law of the gas price's bounds. -/
namespace Sym
open Go

theorem nz_shl (x : I .u64) (m : I .u64) (h0 : 0 < m.val) (h1 : m.val ≤ 60) : I.nz (I.shl (k := .u64) (I.of .u64 1) (I.add (I.of .u64 1) (I.rem x m))) = true := by
  have hr : (I.rem x m).val = x.val % m.val := rem_u64 (by omega)
  have h2 := Int.emod_nonneg x.val (b := m.val) (by omega)
  have h3 := Int.emod_lt_of_pos x.val h0
  have c1 : (I.of .u64 1).val = 1 := rfl
  have ha : (I.add (I.of .u64 1) (I.rem x m)).val = 1 + x.val % m.val := by rw [add_u64 (by omega), hr, c1]
  refine iff_nz.2 ?_
  rw [shl_one (by omega)]
  have := Int.pow_pos (n := 2) (m := (I.add (I.of .u64 1) (I.rem x m)).val.toNat) (by decide)
  omega

theorem build_ok (n0 n1 n2 n3 n4 n5 : I .u64) (sh : I .i64) (d : List (I .i64)) (hd : d.length ≤ 1000) : ∃ y, pontagelaw23_build (((n0, n1, n2, n3, n4, n5, sh, d, ()), ()), ()) = some y := by
  have key : Wp (fun o => ∃ y, o = some y) (pontagelaw23_build (((n0, n1, n2, n3, n4, n5, sh, d, ()), ()), ())) := by
    unfold pontagelaw23_build
    refine Wp.brnT (nn_u64 _) (Wp.brnT (nz_shl _ _ (by decide) (by decide)) ?_)
    refine Wp.brnT (nn_u64 _) (Wp.brnT (nz_shl _ _ (by decide) (by decide)) ?_)
    refine Wp.brnT (nn_u64 _) (Wp.brnT (nz_shl _ _ (by decide) (by decide)) ?_)
    refine Wp.optF (uint256_SaturatingAdd_ok _ _) ?_
    refine Wp.brnT (nn_u64 _) (Wp.brnT (nz_shl _ _ (by decide) (by decide)) ?_)
    refine Wp.brnT (nn_u64 _) (Wp.brnT (nz_shl _ _ (by decide) (by decide)) ?_)
    obtain ⟨out, hout, _⟩ := RepetitiveBytes_ok d hd
    refine Wp.optF hout ?_
    refine Wp.jn (fun _ => True) (fun x _ => ?_) (fun j hj => ?_)
    · refine Wp.brnT (nn_u64 _) (Wp.brnT (nz_shl _ _ (by decide) (by decide)) ?_)
      exact ⟨_, rfl⟩
    · obtain ⟨y, hy, _⟩ := pontagelaw0_Mod_ok sh (I.of .i64 8) (by decide)
      refine Wp.optF hy ?_
      refine Wp.brn (fun _ => hj _ trivial) (fun _ => Wp.brn (fun _ => ?_) (fun _ => Wp.brn (fun _ => ?_) (fun _ => Wp.brn (fun _ => hj _ trivial) (fun _ => hj _ trivial))))
      · obtain ⟨e, he⟩ := pontagelaw0_EdgeUint256_ok n2 n1 (I.quo sh (I.of .i64 8))
        exact Wp.optF he (hj _ trivial)
      · obtain ⟨e, he⟩ := pontagelaw0_EdgeUint256_ok n1 n2 (I.quo sh (I.of .i64 8))
        refine Wp.optF he ?_
        obtain ⟨e2, he2⟩ := pontagelaw0_EdgeUint256_ok n2 n1 (I.quo sh (I.of .i64 64))
        exact Wp.optF he2 (hj _ trivial)
  exact key.out

theorem build_ok' (n0 n1 n2 n3 n4 n5 : I .u64) (sh : I .i64) (d : List (I .i64)) (hd : d.length ≤ 1000) : ∃ (f1 f2 f3 f5 f8 : I .u64) (f9 : List (I .u8)) (v cap tip base c : U),
    pontagelaw23_build (((n0, n1, n2, n3, n4, n5, sh, d, ()), ()), ()) = some (((f1, f2, f3, v, f5, cap, tip, f8, f9, ()), base, c, ()), ()) := by
  obtain ⟨⟨⟨t, base, c, ⟨⟩⟩, ⟨⟩⟩, hy⟩ := build_ok n0 n1 n2 n3 n4 n5 sh d hd
  obtain ⟨f1, f2, f3, v, f5, cap, tip, f8, f9, ⟨⟩⟩ := t
  exact ⟨f1, f2, f3, f5, f8, f9, v, cap, tip, base, c, hy⟩

end Sym

/- The law of the gas price and of cover. -/
namespace Sym
open Go

theorem top_pow' : U.top = 65536 ^ 16 := by decide
theorem len_of {l : List Dg} {n : Nat} (h : IsB l n) (hn : n < 65536 ^ 64) : l.length ≤ 1000000 := Nat.le_trans (h.len.2 hn) (by decide)
theorem lt_big {n : Nat} (h : n < U.top + U.top) : n < 65536 ^ 64 := Nat.lt_trans h (by decide)
theorem lt_sq {n : Nat} (h : n < U.top * U.top + U.top) : n < 65536 ^ 64 := Nat.lt_trans h (by decide)

theorem BMin_ok {a b : List Dg} {m n : Nat} (ha : IsB a m) (hb : IsB b n) (hal : a.length ≤ 1000000) (hbl : b.length ≤ 1000000) : ∃ r, pontageref1_Min ((a, b, ()), ()) = some ((r, ()), ()) ∧ IsB r (min m n) := by
  have key : Wp (fun o => ∃ r, o = some ((r, ()), ()) ∧ IsB r (min m n)) (pontageref1_Min ((a, b, ()), ())) := by
    unfold pontageref1_Min
    refine Wp.optF (Cmp_ok ha hb hal hbl) ?_
    unfold cmpN
    rcases Nat.lt_trichotomy m n with h | h | h
    · rw [if_pos h]
      exact Wp.brnF rfl ⟨a, rfl, by rw [Nat.min_eq_left (by omega)]; exact ha⟩
    · rw [if_neg (by omega), if_neg (by omega)]
      exact Wp.brnF rfl ⟨a, rfl, by rw [Nat.min_eq_left (by omega)]; exact ha⟩
    · rw [if_neg (by omega), if_pos h]
      exact Wp.brnT rfl ⟨b, rfl, by rw [Nat.min_eq_right (by omega)]; exact hb⟩
  exact key.out

theorem tip_ok (f1 f2 f3 f5 f8 f9) (v c t base : U) (h : base.val ≤ c.val) : ∃ r, pontageref23_tip (((f1, f2, f3, v, f5, c, t, f8, f9, ()), base, ()), ()) = some ((r, ()), ()) ∧ IsB r (min t.val (c.val - base.val)) := by
  have hc := c.lt
  have ht := t.lt
  have key : Wp (fun o => ∃ r, o = some ((r, ()), ()) ∧ IsB r (min t.val (c.val - base.val))) (pontageref23_tip (((f1, f2, f3, v, f5, c, t, f8, f9, ()), base, ()), ())) := by
    unfold pontageref23_tip
    obtain ⟨l0, e0, b0⟩ := FromUint256_ok t
    obtain ⟨l1, e1, b1⟩ := FromUint256_ok c
    obtain ⟨l2, e2, b2⟩ := FromUint256_ok base
    refine Wp.optF e0 (Wp.optF e1 (Wp.optF e2 ?_))
    obtain ⟨l3, e3, b3⟩ := Sub_ok b1 b2 h (len_of b1 (lt_big (by omega)))
    refine Wp.optF e3 ?_
    obtain ⟨l4, e4, b4⟩ := BMin_ok b0 b3 (len_of b0 (lt_big (by omega))) (len_of b3 (lt_big (by omega)))
    exact Wp.optF e4 ⟨l4, rfl, b4⟩
  exact key.out

theorem RGas_eq (f1 f2 f3 f5 f8 f9) (v c t base : U) : pontageref23_GasPrice (((f1, f2, f3, v, f5, c, t, f8, f9, ()), base, ()), ()) = some (((gasS (c, t) base).1, (gasS (c, t) base).2, ()), ()) := by
  refine Wp.out (T := fun o => o = some (((gasS (c, t) base).1, (gasS (c, t) base).2, ()), ())) ?_
  have hc := c.lt
  have hb := base.lt
  unfold pontageref23_GasPrice gasS
  obtain ⟨l1, e1, b1⟩ := FromUint256_ok c
  obtain ⟨l2, e2, b2⟩ := FromUint256_ok base
  refine Wp.optF e1 (Wp.optF e2 ?_)
  refine Wp.optF (Cmp_ok b1 b2 (len_of b1 (lt_big (by omega))) (len_of b2 (lt_big (by omega)))) ?_
  by_cases h : base.val ≤ c.val
  · rw [if_pos h]
    refine Wp.brnF ?_ ?_
    · show I.ltb (cmpN _ _) (I.of .i64 0) = false
      unfold cmpN
      rw [if_neg (by omega)]
      split <;> rfl
    refine Wp.optF e2 ?_
    obtain ⟨l3, e3, b3⟩ := tip_ok f1 f2 f3 f5 f8 f9 v c t base h
    refine Wp.optF e3 ?_
    obtain ⟨l4, e4, b4⟩ := Add_ok b2 b3 (len_of b2 (lt_big (by omega))) (len_of b3 (lt_big (by omega)))
    refine Wp.optF e4 ?_
    refine Wp.optF (Checked_ok' b4 (len_of b4 (lt_big (by omega)))) ?_
    rw [show errS (base.val + min t.val (c.val - base.val)) = (U.of (base.val + min t.val (c.val - base.val)), I.of .i64 0) from if_pos (by omega)]
    rfl
  · rw [if_neg h]
    refine Wp.brnT ?_ rfl
    show I.ltb (cmpN _ _) (I.of .i64 0) = true
    unfold cmpN
    rw [if_pos (by omega)]; rfl

def coverB (lim : I .u64) (price value bal : U) : Bool := decide (lim.nat * price.val + value.val ≤ bal.val)

theorem cov_eq (f1 f2 f3 f5 f8 : I .u64) (f9 : List (I .u8)) (v c t price bal : U) : txfee_Covers (((f1, f2, f3, v, f5, c, t, f8, f9, ()), price, bal, ()), ()) = some ((coverB f5 price v bal, ()), ()) := by
  have hbal := bal.lt
  refine Wp.out (T := fun o => o = some ((coverB f5 price v bal, ()), ())) ?_
  unfold txfee_Covers coverB
  refine Wp.optF (u256_FromUint64 f5) ?_
  refine Wp.optF (Mul_ok (u64U f5) price) ?_
  rw [u64U_val]
  unfold errS
  by_cases h : I.nat f5 * price.val < U.top
  · rw [if_pos h]
    refine Wp.brnF rfl ?_
    refine Wp.optF (uint256_Add_eq (U.of (I.nat f5 * price.val)) v) ?_
    unfold addS
    rw [U.val_of h]
    by_cases h2 : I.nat f5 * price.val + v.val < U.top
    · rw [if_pos h2]
      refine Wp.brnT rfl ?_
      refine Wp.optF (uint256_Cmp_eq bal (U.of (I.nat f5 * price.val + v.val))) ?_
      show some ((I.leb (I.of .i64 0) (cmpS bal (U.of (I.nat f5 * price.val + v.val))), ()), ()) = _
      unfold cmpS
      rw [U.val_of h2]
      by_cases h3 : I.nat f5 * price.val + v.val ≤ bal.val
      · rw [if_neg (by omega), decide_eq_true h3]
        split <;> rfl
      · rw [if_pos (by omega), decide_eq_false h3]; rfl
    · rw [if_neg h2, decide_eq_false (by omega)]
      exact Wp.brnF rfl rfl
  · rw [if_neg h, decide_eq_false (by omega)]
    exact Wp.brnT rfl rfl

theorem Rcov_eq (f1 f2 f3 f5 f8 : I .u64) (f9 : List (I .u8)) (v c t price bal : U) : pontageref23_Covers (((f1, f2, f3, v, f5, c, t, f8, f9, ()), price, bal, ()), ()) = some ((coverB f5 price v bal, ()), ()) := by
  have hbal := bal.lt
  have hp := price.lt
  have hv := v.lt
  have hf : I.nat f5 < U.top := by
    have := nat_lt f5
    have : U.top = 115792089237316195423570985008687907853269984665640564039457584007913129639936 := rfl
    omega
  have hm : I.nat f5 * price.val < U.top * U.top := by
    have h1 : I.nat f5 * price.val ≤ (U.top - 1) * (U.top - 1) := Nat.mul_le_mul (by omega) (by omega)
    exact Nat.lt_of_le_of_lt h1 (by decide)
  refine Wp.out (T := fun o => o = some ((coverB f5 price v bal, ()), ())) ?_
  unfold pontageref23_Covers coverB
  obtain ⟨l0, e0, b0⟩ := FromUint64_ok f5
  obtain ⟨l1, e1, b1⟩ := FromUint256_ok price
  refine Wp.optF e0 (Wp.optF e1 ?_)
  obtain ⟨l2, e2, b2⟩ := BMul_ok b0 b1 (len_of b0 (lt_big (by omega))) (len_of b1 (lt_big (by omega)))
  refine Wp.optF e2 ?_
  obtain ⟨l3, e3, b3⟩ := FromUint256_ok v
  refine Wp.optF e3 ?_
  obtain ⟨l4, e4, b4⟩ := Add_ok b2 b3 (len_of b2 (lt_sq (by omega))) (len_of b3 (lt_big (by omega)))
  refine Wp.optF e4 ?_
  obtain ⟨l5, e5, b5⟩ := FromUint256_ok bal
  refine Wp.optF e5 ?_
  refine Wp.optF (Cmp_ok b5 b4 (len_of b5 (lt_big (by omega))) (len_of b4 (lt_sq (by omega)))) ?_
  show some ((I.leb (I.of .i64 0) (cmpN bal.val (I.nat f5 * price.val + v.val)), ()), ()) = _
  unfold cmpN
  by_cases h3 : I.nat f5 * price.val + v.val ≤ bal.val
  · rw [if_neg (by omega), decide_eq_true h3]
    split <;> rfl
  · rw [if_pos (by omega), decide_eq_false h3]; rfl

theorem SatMul_ok (a b : U) : ∃ r : U, uint256_SaturatingMul ((a, b, ()), ()) = some ((r, ()), ()) := by
  have key : Wp (fun o => ∃ r : U, o = some ((r, ()), ())) (uint256_SaturatingMul ((a, b, ()), ())) := by
    unfold uint256_SaturatingMul
    refine Wp.optF (Mul_ok a b) ?_
    exact Wp.brn (fun _ => ⟨_, rfl⟩) (fun _ => Wp.optF rfl ⟨_, rfl⟩)
  exact key.out

abbrev TT : Type := I .u64 × I .u64 × I .u64 × U × I .u64 × U × U × I .u64 × List (I .u8) × Unit

theorem cov_same (t : TT) (p k : U) : ∃ r : Bool, txfee_Covers ((t, p, k, ()), ()) = some ((r, ()), ()) ∧ pontageref23_Covers ((t, p, k, ()), ()) = some ((r, ()), ()) := by
  obtain ⟨f1, f2, f3, v, f5, c, tp, f8, f9, ⟨⟩⟩ := t
  exact ⟨_, cov_eq f1 f2 f3 f5 f8 f9 v c tp p k, Rcov_eq f1 f2 f3 f5 f8 f9 v c tp p k⟩

theorem gas_same (t : TT) (b : U) : ∃ (r : U) (e : I .i64), txfee_GasPrice ((t, b, ()), ()) = some ((r, e, ()), ()) ∧ pontageref23_GasPrice ((t, b, ()), ()) = some ((r, e, ()), ()) := by
  obtain ⟨f1, f2, f3, v, f5, c, tp, f8, f9, ⟨⟩⟩ := t
  exact ⟨_, _, txfee_GasPrice_eq f1 f2 f3 f5 f8 f9 v c tp b, RGas_eq f1 f2 f3 f5 f8 f9 v c tp b⟩

theorem eqbU (a : U) : Ty.eqb (.arr 4 (.int .u64)) a a = true := by rw [eqb_u256]; simp

theorem cover_law (t : TT) (base bal : U) (n0 n1 n2 n3 n4 n5 : I .u64) (sh : I .i64) (d : List (I .i64)) (few : I .u64) (hd : d.length ≤ LIM) : pontagelaw23_TxFeeGasPrice ((t, base, bal, (n0, n1, n2, n3, n4, n5, sh, d, ()), few, ()), ()) = some ((true, ()), ()) := by
  refine Wp.out (T := fun o => o = some ((true, ()), ())) ?_
  have hl : (I.ofNat .i64 (lenL d)).val = d.length := ofNat_i64 (by show d.length < _; simp only [LIM] at hd; omega)
  have c20 : (I.of .i64 20).val = 20 := rfl
  unfold pontagelaw23_TxFeeGasPrice
  refine Wp.jn (fun s => s.1.1 = few ∧ s.2.1 = t ∧ s.2.2.1 = base ∧ s.2.2.2.1 = bal ∧ s.2.2.2.2.1 = (n0, n1, n2, n3, n4, n5, sh, d, ()) ∧ d.length ≤ 1000) ?_ ?_
  · rintro ⟨⟨few', ⟨⟩⟩, t', base', bal', nn, ⟨⟩⟩ ⟨e0, e1, e2, e3, e4, hd1⟩
    simp only at e0 e1 e2 e3 e4
    subst e0 e1 e2 e3 e4
    obtain ⟨f1, f2, f3, f5, f8, f9, v, cap, tip, b, c, hy⟩ := build_ok' n0 n1 n2 n3 n4 n5 sh d hd1
    obtain ⟨u, hu⟩ : ∃ u : TT, u = (f1, f2, f3, v, f5, cap, tip, f8, f9, ()) := ⟨_, rfl⟩
    rw [← hu] at hy
    refine Wp.optF hy ?_
    obtain ⟨x, ex, hx, hx'⟩ := gas_same t' base'
    obtain ⟨z, ez, hz, hz'⟩ := gas_same u b
    refine Wp.optF hx (Wp.optF hx' (Wp.optF hz (Wp.optF hz' ?_)))
    refine Wp.jn (fun _ => True) ?_ ?_
    · rintro ⟨⟨few2, ⟨⟩⟩, t2, base2, bal2, u2, w2, ⟨⟩⟩ _
      obtain ⟨m, hm⟩ := SatMul_ok (u2.2.2.2.2.1, I.of .u64 0, I.of .u64 0, I.of .u64 0, ()) w2
      refine Wp.optF hm ?_
      refine Wp.optF (uint256_SaturatingAdd_ok m u2.2.2.2.1) ?_
      refine Wp.optF (SatSub_ok _ _) ?_
      refine Wp.iter (fun x => 0 ≤ x.1.2.1.val ∧ x.1.2.1.val ≤ 4) (fun x => (4 - x.1.2.1.val).toNat) ?_ ?_ ?_
      · rintro ⟨⟨ar, i, ⟨⟩⟩, t3, base3, u3, w3, ⟨⟩⟩ ⟨hi0, hi1⟩
        simp only at hi0 hi1
        have c4 : (I.of .i64 4).val = 4 := rfl
        have c1 : (I.of .i64 1).val = 1 := rfl
        refine Wp.brn (fun h => ?_) (fun h => Wp.done (Wp.optF pontagelaw23_awake_eq rfl))
        have h := iff_ltb.1 h
        have h : i.val < (I.of .i64 4).val := h
        refine Wp.brnT (iff_inB.2 ⟨hi0, by show i.val < ((4 : Nat) : Int); omega⟩) ?_
        obtain ⟨r1, h1, h1'⟩ := cov_same u3 w3 (Arr.sel (I.of .u64 0, I.of .u64 0, I.of .u64 0, I.of .u64 0, ()) 4 ar (I.nat i))
        obtain ⟨r2, h2, h2'⟩ := cov_same t3 base3 (Arr.sel (I.of .u64 0, I.of .u64 0, I.of .u64 0, I.of .u64 0, ()) 4 ar (I.nat i))
        refine Wp.optF h1 (Wp.optF h1' (Wp.brnF (by show (!(r1 == r1)) = false; simp) ?_))
        refine Wp.optF h2 (Wp.optF h2' (Wp.brnF (by show (!(r2 == r2)) = false; simp) ?_))
        have hs : (I.add i (I.of .i64 1)).val = i.val + 1 := by rw [add_i64 (by omega)]; omega
        refine Wp.again ⟨?_, ?_⟩ ?_
        · show 0 ≤ (I.add i (I.of .i64 1)).val; omega
        · show (I.add i (I.of .i64 1)).val ≤ 4; omega
        · show (4 - (I.add i (I.of .i64 1)).val).toNat < (4 - i.val).toNat
          omega
      · exact ⟨by show 0 ≤ (I.of .i64 0).val; decide, by show (I.of .i64 0).val ≤ 4; decide⟩
      · exact K0_ge _ (by show (4 - (I.of .i64 0).val).toNat < _; decide)
    · intro j6 hj6
      refine Wp.brnF (by show (!(Ty.eqb (.arr 4 (.int .u64)) x x)) = false; rw [eqbU]; rfl) ?_
      refine Wp.brnF (by simp [I.neb]) ?_
      refine Wp.brnF (by show (!(Ty.eqb (.arr 4 (.int .u64)) z z)) = false; rw [eqbU]; rfl) ?_
      refine Wp.brnF (by simp [I.neb]) ?_
      exact hj6 _ trivial
  · intro j0 hj0
    refine Wp.jn (fun s => s.1.1 = few ∧ (s.1.2.1 = false → d.length ≤ 1000) ∧ s.2.1 = t ∧ s.2.2.1 = base ∧ s.2.2.2.1 = bal ∧ s.2.2.2.2.1 = (n0, n1, n2, n3, n4, n5, sh, d, ())) ?_ ?_
    · rintro ⟨⟨few', v, ⟨⟩⟩, t', base', bal', nn, ⟨⟩⟩ ⟨e0, e1, e2, e3, e4, e5⟩
      simp only at e0 e1 e2 e3 e4 e5
      subst e0 e2 e3 e4 e5
      cases v with
      | true => exact Wp.brnT rfl (Wp.optF pontagelaw23_awake_eq rfl)
      | false => exact Wp.brnF rfl (hj0 _ ⟨rfl, rfl, rfl, rfl, rfl, e1 rfl⟩)
    · intro j1 hj1
      refine Wp.brn (fun h => hj1 _ ⟨rfl, fun hh => (by cases hh), rfl, rfl, rfl, rfl⟩) (fun h => ?_)
      have h := niff_ltb.1 h
      have h : (I.ofNat .i64 (lenL d)).val ≤ (I.of .i64 20).val := h
      exact hj1 _ ⟨rfl, fun _ => by omega, rfl, rfl, rfl, rfl⟩
end Sym
