/- The contracts of the given functions. -/
import Derived.Test.YtmjjppoaianfmaaProg
import Derived.Test.YtmjjppoaianfmaaPart5
import Derived.Test.YtmjjppoaianfmaaPart3
namespace Sym
open Go Go.Proofs
set_option maxRecDepth 100000

def tys : List (Nat × Ty) := [(2, (.int .i64)), (3, (.int .i64)), (4, .bool), (5, (.int .u8)), (6, (.int .u8)), (7, (.cons (.int .i64) (.cons (.int .i64) (.cons .bool (.cons (.int .u8) .nil))))), (8, (.cons (.int .i64) (.cons (.int .i64) (.cons .bool (.cons (.int .u8) .nil))))), (9, .str), (10, .str), (11, .str), (22, (.int .u64)), (24, (.arr 4 (.int .u64))), (26, (.cons .bool (.cons (.arr 4 (.int .u64)) .nil))), (28, (.cons (.int .u64) (.cons (.int .u64) (.cons (.int .u64) (.cons (.arr 4 (.int .u64)) (.cons (.int .u64) (.cons (.arr 4 (.int .u64)) (.cons (.int .u64) (.cons (.arr 4 (.int .u64)) (.cons (.int .u64) (.cons (.int .u64) (.cons (.int .u64) (.cons (.int .u64) .nil))))))))))))), (29, (.arr 8 (.int .u64))), (31, (.arr 2 (.cons (.int .u64) (.cons (.int .u64) (.cons (.int .u64) (.cons (.arr 4 (.int .u64)) (.cons (.int .u64) (.cons (.arr 4 (.int .u64)) (.cons (.int .u64) (.cons (.arr 4 (.int .u64)) (.cons (.int .u64) (.cons (.int .u64) (.cons (.int .u64) (.cons (.int .u64) .nil)))))))))))))), (32, (.arr 2 (.int .u64))), (33, (.int .i64)), (56, (.sl (.int .u8))), (58, (.cons (.int .u64) (.cons (.int .u64) (.cons (.int .u64) (.cons (.arr 4 (.int .u64)) (.cons (.int .u64) (.cons (.arr 4 (.int .u64)) (.cons (.arr 4 (.int .u64)) (.cons (.int .u64) (.cons (.sl (.int .u8)) .nil)))))))))), (59, (.sl (.int .i64))), (61, (.cons (.int .u64) (.cons (.int .u64) (.cons (.int .u64) (.cons (.int .u64) (.cons (.int .u64) (.cons (.int .u64) (.cons (.int .i64) (.cons (.sl (.int .i64)) .nil))))))))), (65, (.cons (.int .u64) (.cons (.int .u64) (.cons (.int .u64) (.cons (.int .u64) (.cons .bool (.cons (.arr 4 (.int .u64)) (.cons (.arr 4 (.int .u64)) (.cons (.arr 4 (.int .u64)) (.cons (.arr 4 (.int .u64)) (.cons (.arr 4 (.int .u64)) .nil))))))))))), (82, (.sl (.int .i64))), (84, (.cons .bool (.cons (.sl (.int .i64)) .nil))), (110, (.sl (.arr 4 (.int .u64)))), (118, (.int .u64)), (134, (.arr 12 .bool)), (138, (.sl (.int .u64))), (139, .opq), (141, .opq), (142, .opq)]
def eqs : List (Nat × Ty) := [(2, (.int .i64)), (3, (.int .i64)), (4, .bool), (5, (.int .u8)), (6, (.int .u8)), (7, (.cons (.int .i64) (.cons (.int .i64) (.cons .bool (.cons (.int .u8) .nil))))), (8, (.cons (.int .i64) (.cons (.int .i64) (.cons .bool (.cons (.int .u8) .nil))))), (22, (.int .u64)), (24, (.arr 4 (.int .u64))), (26, (.cons .bool (.cons (.arr 4 (.int .u64)) .nil))), (28, (.cons (.int .u64) (.cons (.int .u64) (.cons (.int .u64) (.cons (.arr 4 (.int .u64)) (.cons (.int .u64) (.cons (.arr 4 (.int .u64)) (.cons (.int .u64) (.cons (.arr 4 (.int .u64)) (.cons (.int .u64) (.cons (.int .u64) (.cons (.int .u64) (.cons (.int .u64) .nil))))))))))))), (29, (.arr 8 (.int .u64))), (31, (.arr 2 (.cons (.int .u64) (.cons (.int .u64) (.cons (.int .u64) (.cons (.arr 4 (.int .u64)) (.cons (.int .u64) (.cons (.arr 4 (.int .u64)) (.cons (.int .u64) (.cons (.arr 4 (.int .u64)) (.cons (.int .u64) (.cons (.int .u64) (.cons (.int .u64) (.cons (.int .u64) .nil)))))))))))))), (32, (.arr 2 (.int .u64))), (33, (.int .i64)), (65, (.cons (.int .u64) (.cons (.int .u64) (.cons (.int .u64) (.cons (.int .u64) (.cons .bool (.cons (.arr 4 (.int .u64)) (.cons (.arr 4 (.int .u64)) (.cons (.arr 4 (.int .u64)) (.cons (.arr 4 (.int .u64)) (.cons (.arr 4 (.int .u64)) .nil))))))))))), (118, (.int .u64)), (134, (.arr 12 .bool)), (139, .opq), (141, .opq), (142, .opq)]
theorem tysOk : tys.all (fun x => tiB Try.prog x.1 x.2) = true := by kernel_rfl
theorem eqsOk : eqs.all (fun x => eqiB Try.prog x.1 x.2) = true := by kernel_rfl
theorem follows : Try.prog.follows .mixedOrders = true := by kernel_rfl
theorem noOddP : noOdd Try.prog := noOdd_of (by kernel_rfl)
/-- pontage/uint256.FromUint64 -/
noncomputable def uint256_FromUint64C : Con := ⟨_, _, uint256_FromUint64⟩
noncomputable def env45 : Env := mkEnv Try.prog tys eqs []
def ann45 : Anns := fun _ _ => none
theorem ev45 : ∀ x, evalFn env45 ann45 45 ⟨[.pl (.int .u64)], []⟩ ⟨[.pl (.arr 4 (.int .u64))], []⟩ 60 K0 x = uint256_FromUint64 x := by intro x; kernel_rfl
theorem ok45 : ConOk Try.prog 45 uint256_FromUint64C := con_of_ev (E := env45) (envOk tysOk eqsOk (show HowsOk Try.prog [] from trivial) follows) noOddP fun x _ h => ⟨ann45, 60, K0, (ev45 x).trans h⟩
/-- pontage/params.Genesis -/
noncomputable def params_GenesisC : Con := ⟨_, _, params_Genesis⟩
noncomputable def env43 : Env := mkEnv Try.prog tys eqs [(45, .con uint256_FromUint64C)]
def ann43 : Anns := fun _ _ => none
theorem ev43 : ∀ x, evalFn env43 ann43 43 ⟨[], []⟩ ⟨[.pl (.cons (.int .u64) (.cons (.int .u64) (.cons (.int .u64) (.cons (.arr 4 (.int .u64)) (.cons (.int .u64) (.cons (.arr 4 (.int .u64)) (.cons (.int .u64) (.cons (.arr 4 (.int .u64)) (.cons (.int .u64) (.cons (.int .u64) (.cons (.int .u64) (.cons (.int .u64) .nil))))))))))))], []⟩ 60 K0 x = params_Genesis x := by intro x; kernel_rfl
theorem ok43 : ConOk Try.prog 43 params_GenesisC := con_of_ev (E := env43) (envOk tysOk eqsOk (show HowsOk Try.prog [(45, .con uint256_FromUint64C)] from (And.intro ok45 trivial)) follows) noOddP fun x _ h => ⟨ann43, 60, K0, (ev43 x).trans h⟩
/-- pontage/pontagelaw14.ValidParams -/
noncomputable def pontagelaw14_ValidParamsC : Con := ⟨_, _, pontagelaw14_ValidParams⟩
noncomputable def env12 : Env := mkEnv Try.prog tys eqs [(43, .con params_GenesisC)]
def ann12 : Anns := fun _ _ => none
theorem ev12 : ∀ x, evalFn env12 ann12 12 ⟨[.pl (.arr 8 (.int .u64))], []⟩ ⟨[.pl (.cons (.int .u64) (.cons (.int .u64) (.cons (.int .u64) (.cons (.arr 4 (.int .u64)) (.cons (.int .u64) (.cons (.arr 4 (.int .u64)) (.cons (.int .u64) (.cons (.arr 4 (.int .u64)) (.cons (.int .u64) (.cons (.int .u64) (.cons (.int .u64) (.cons (.int .u64) .nil))))))))))))], []⟩ 60 K0 x = pontagelaw14_ValidParams x := by intro x; kernel_rfl
theorem ok12 : ConOk Try.prog 12 pontagelaw14_ValidParamsC := con_of_ev (E := env12) (envOk tysOk eqsOk (show HowsOk Try.prog [(43, .con params_GenesisC)] from (And.intro ok43 trivial)) follows) noOddP fun x _ h => ⟨ann12, 60, K0, (ev12 x).trans h⟩
/-- pontage/int256.Valid -/
noncomputable def int256_ValidC : Con := ⟨_, _, int256_Valid⟩
noncomputable def env20 : Env := mkEnv Try.prog tys eqs []
def ann20 : Anns := fun _ _ => none
theorem ev20 : ∀ x, evalFn env20 ann20 20 ⟨[.pl (.cons .bool (.cons (.arr 4 (.int .u64)) .nil))], []⟩ ⟨[.pl .bool], []⟩ 60 K0 x = int256_Valid x := by intro x; kernel_rfl
theorem ok20 : ConOk Try.prog 20 int256_ValidC := con_of_ev (E := env20) (envOk tysOk eqsOk (show HowsOk Try.prog [] from trivial) follows) noOddP fun x _ h => ⟨ann20, 60, K0, (ev20 x).trans h⟩
/-- pontage/int256.New -/
noncomputable def int256_NewC : Con := ⟨_, _, int256_New⟩
noncomputable def env17 : Env := mkEnv Try.prog tys eqs []
def ann17 : Anns := fun _ _ => none
theorem ev17 : ∀ x, evalFn env17 ann17 17 ⟨[.pl .bool, .pl (.arr 4 (.int .u64))], []⟩ ⟨[.pl (.cons .bool (.cons (.arr 4 (.int .u64)) .nil))], []⟩ 60 K0 x = int256_New x := by intro x; kernel_rfl
theorem ok17 : ConOk Try.prog 17 int256_NewC := con_of_ev (E := env17) (envOk tysOk eqsOk (show HowsOk Try.prog [] from trivial) follows) noOddP fun x _ h => ⟨ann17, 60, K0, (ev17 x).trans h⟩
/-- pontage/int256.Neg -/
noncomputable def int256_NegC : Con := ⟨_, _, int256_Neg⟩
noncomputable def env25 : Env := mkEnv Try.prog tys eqs [(17, .con int256_NewC), (20, .con int256_ValidC)]
def ann25 : Anns := fun _ _ => none
theorem ev25 : ∀ x, evalFn env25 ann25 25 ⟨[.pl (.cons .bool (.cons (.arr 4 (.int .u64)) .nil))], []⟩ ⟨[.pl (.cons .bool (.cons (.arr 4 (.int .u64)) .nil)), .pl (.int .i64)], []⟩ 60 K0 x = int256_Neg x := by intro x; kernel_rfl
theorem ok25 : ConOk Try.prog 25 int256_NegC := con_of_ev (E := env25) (envOk tysOk eqsOk (show HowsOk Try.prog [(17, .con int256_NewC), (20, .con int256_ValidC)] from (And.intro ok17 (And.intro ok20 trivial))) follows) noOddP fun x _ h => ⟨ann25, 60, K0, (ev25 x).trans h⟩
/-- pontage/uint256.Cmp -/
noncomputable def uint256_CmpC : Con := ⟨_, _, uint256_Cmp⟩
noncomputable def env21 : Env := mkEnv Try.prog tys eqs []
def ann21 : Anns := fun p _ => match p with | 1000000 :: _ => none | _ => some (.unroll 6)
theorem ev21 : ∀ x, evalFn env21 ann21 21 ⟨[.pl (.arr 4 (.int .u64)), .pl (.arr 4 (.int .u64))], []⟩ ⟨[.pl (.int .i64)], []⟩ 60 K0 x = uint256_Cmp x := by intro x; kernel_rfl
theorem ok21 : ConOk Try.prog 21 uint256_CmpC := con_of_ev (E := env21) (envOk tysOk eqsOk (show HowsOk Try.prog [] from trivial) follows) noOddP fun x _ h => ⟨ann21, 60, K0, (ev21 x).trans h⟩
theorem ok96 : ConOk Try.prog 96 sub64C := sub64_ok (fn := Try.f96) (by kernel_rfl) (by kernel_rfl) (by kernel_rfl) (by kernel_rfl) (by kernel_rfl)
/-- pontage/uint256.Sub -/
noncomputable def uint256_SubC : Con := ⟨_, _, uint256_Sub⟩
noncomputable def env78 : Env := mkEnv Try.prog tys eqs [(96, .con sub64C)]
def ann78 : Anns := fun p _ => match p with | 1000000 :: _ => none | _ => some (.unroll 6)
theorem ev78 : ∀ x, evalFn env78 ann78 78 ⟨[.pl (.arr 4 (.int .u64)), .pl (.arr 4 (.int .u64))], []⟩ ⟨[.pl (.arr 4 (.int .u64)), .pl (.int .i64)], []⟩ 60 K0 x = uint256_Sub x := by intro x; kernel_rfl
theorem ok78 : ConOk Try.prog 78 uint256_SubC := con_of_ev (E := env78) (envOk tysOk eqsOk (show HowsOk Try.prog [(96, .con sub64C)] from (And.intro ok96 trivial)) follows) noOddP fun x _ h => ⟨ann78, 60, K0, (ev78 x).trans h⟩
/-- pontage/uint256.SaturatingSub -/
noncomputable def uint256_SaturatingSubC : Con := ⟨_, _, uint256_SaturatingSub⟩
noncomputable def env35 : Env := mkEnv Try.prog tys eqs [(78, .con uint256_SubC)]
def ann35 : Anns := fun _ _ => none
theorem ev35 : ∀ x, evalFn env35 ann35 35 ⟨[.pl (.arr 4 (.int .u64)), .pl (.arr 4 (.int .u64))], []⟩ ⟨[.pl (.arr 4 (.int .u64))], []⟩ 60 K0 x = uint256_SaturatingSub x := by intro x; kernel_rfl
theorem ok35 : ConOk Try.prog 35 uint256_SaturatingSubC := con_of_ev (E := env35) (envOk tysOk eqsOk (show HowsOk Try.prog [(78, .con uint256_SubC)] from (And.intro ok78 trivial)) follows) noOddP fun x _ h => ⟨ann35, 60, K0, (ev35 x).trans h⟩
/-- pontage/int256.Diff -/
noncomputable def int256_DiffC : Con := ⟨_, _, int256_Diff⟩
noncomputable def env60 : Env := mkEnv Try.prog tys eqs [(17, .con int256_NewC), (21, .con uint256_CmpC), (35, .con uint256_SaturatingSubC)]
def ann60 : Anns := fun _ _ => none
theorem ev60 : ∀ x, evalFn env60 ann60 60 ⟨[.pl (.arr 4 (.int .u64)), .pl (.arr 4 (.int .u64))], []⟩ ⟨[.pl (.cons .bool (.cons (.arr 4 (.int .u64)) .nil))], []⟩ 60 K0 x = int256_Diff x := by intro x; kernel_rfl
theorem ok60 : ConOk Try.prog 60 int256_DiffC := con_of_ev (E := env60) (envOk tysOk eqsOk (show HowsOk Try.prog [(17, .con int256_NewC), (21, .con uint256_CmpC), (35, .con uint256_SaturatingSubC)] from (And.intro ok17 (And.intro ok21 (And.intro ok35 trivial)))) follows) noOddP fun x _ h => ⟨ann60, 60, K0, (ev60 x).trans h⟩
theorem ok82 : ConOk Try.prog 82 add64C := add64_ok (fn := Try.f82) (by kernel_rfl) (by kernel_rfl) (by kernel_rfl) (by kernel_rfl) (by kernel_rfl)
/-- pontage/uint256.Add -/
noncomputable def uint256_AddC : Con := ⟨_, _, uint256_Add⟩
noncomputable def env61 : Env := mkEnv Try.prog tys eqs [(82, .con add64C)]
def ann61 : Anns := fun p _ => match p with | 1000000 :: _ => none | _ => some (.unroll 6)
theorem ev61 : ∀ x, evalFn env61 ann61 61 ⟨[.pl (.arr 4 (.int .u64)), .pl (.arr 4 (.int .u64))], []⟩ ⟨[.pl (.arr 4 (.int .u64)), .pl (.int .i64)], []⟩ 60 K0 x = uint256_Add x := by intro x; kernel_rfl
theorem ok61 : ConOk Try.prog 61 uint256_AddC := con_of_ev (E := env61) (envOk tysOk eqsOk (show HowsOk Try.prog [(82, .con add64C)] from (And.intro ok82 trivial)) follows) noOddP fun x _ h => ⟨ann61, 60, K0, (ev61 x).trans h⟩
/-- pontage/int256.Add -/
noncomputable def int256_AddC : Con := ⟨_, _, int256_Add⟩
noncomputable def env64 : Env := mkEnv Try.prog tys eqs [(17, .con int256_NewC), (20, .con int256_ValidC), (60, .con int256_DiffC), (61, .con uint256_AddC)]
def ann64 : Anns := fun p c => match p, c with | [1000000, 64], 4 => some (.join ⟨[.dead, .dead, .ptr 0 [], .ptr 1 [], .ptr 2 [], .dead, .dead, .dead, .dead, .dead, .dead, .dead, .dead, .dead, .dead, .dead, .dead, .dead, .dead, .dead, .dead, .dead, .dead, .dead, .dead, .dead, .dead, .dead, .dead, .dead, .dead, .dead, .dead, .dead, .dead, .dead, .dead, .dead, .dead, .dead, .dead, .dead, .dead, .dead, .dead, .dead, .dead, .dead, .dead, .dead], [.box (.cons .bool (.cons (.arr 4 (.int .u64)) .nil)) (.pl (.cons .bool (.cons (.arr 4 (.int .u64)) .nil))), .box (.cons .bool (.cons (.arr 4 (.int .u64)) .nil)) (.pl (.cons .bool (.cons (.arr 4 (.int .u64)) .nil))), .box (.cons .bool (.cons (.arr 4 (.int .u64)) .nil)) (.pl (.cons .bool (.cons (.arr 4 (.int .u64)) .nil)))]⟩) | _, _ => none
theorem ev64 : ∀ x, evalFn env64 ann64 64 ⟨[.pl (.cons .bool (.cons (.arr 4 (.int .u64)) .nil)), .pl (.cons .bool (.cons (.arr 4 (.int .u64)) .nil))], []⟩ ⟨[.pl (.cons .bool (.cons (.arr 4 (.int .u64)) .nil)), .pl (.int .i64)], []⟩ 60 K0 x = int256_Add x := by intro x; kernel_rfl
theorem ok64 : ConOk Try.prog 64 int256_AddC := con_of_ev (E := env64) (envOk tysOk eqsOk (show HowsOk Try.prog [(17, .con int256_NewC), (20, .con int256_ValidC), (60, .con int256_DiffC), (61, .con uint256_AddC)] from (And.intro ok17 (And.intro ok20 (And.intro ok60 (And.intro ok61 trivial))))) follows) noOddP fun x _ h => ⟨ann64, 60, K0, (ev64 x).trans h⟩
/-- pontage/int256.Sub -/
noncomputable def int256_SubC : Con := ⟨_, _, int256_Sub⟩
noncomputable def env26 : Env := mkEnv Try.prog tys eqs [(20, .con int256_ValidC), (25, .con int256_NegC), (64, .con int256_AddC)]
def ann26 : Anns := fun p c => match p, c with | [1000000, 26], 5 => some (.join ⟨[.dead, .dead, .ptr 0 [], .dead, .ptr 1 [], .dead, .ptr 2 [], .dead, .dead, .dead, .dead, .dead, .dead, .dead, .dead, .dead, .dead, .dead, .dead, .dead, .dead, .dead, .dead, .dead, .dead, .dead], [.box (.cons .bool (.cons (.arr 4 (.int .u64)) .nil)) (.pl (.cons .bool (.cons (.arr 4 (.int .u64)) .nil))), .box (.cons .bool (.cons (.arr 4 (.int .u64)) .nil)) (.pl (.cons .bool (.cons (.arr 4 (.int .u64)) .nil))), .box (.cons .bool (.cons (.arr 4 (.int .u64)) .nil)) (.pl (.cons .bool (.cons (.arr 4 (.int .u64)) .nil)))]⟩) | _, _ => none
theorem ev26 : ∀ x, evalFn env26 ann26 26 ⟨[.pl (.cons .bool (.cons (.arr 4 (.int .u64)) .nil)), .pl (.cons .bool (.cons (.arr 4 (.int .u64)) .nil))], []⟩ ⟨[.pl (.cons .bool (.cons (.arr 4 (.int .u64)) .nil)), .pl (.int .i64)], []⟩ 60 K0 x = int256_Sub x := by intro x; kernel_rfl
theorem ok26 : ConOk Try.prog 26 int256_SubC := con_of_ev (E := env26) (envOk tysOk eqsOk (show HowsOk Try.prog [(20, .con int256_ValidC), (25, .con int256_NegC), (64, .con int256_AddC)] from (And.intro ok20 (And.intro ok25 (And.intro ok64 trivial)))) follows) noOddP fun x _ h => ⟨ann26, 60, K0, (ev26 x).trans h⟩
/-- pontage/muldiv.shiftLeft -/
noncomputable def muldiv_shiftLeftC : Con := ⟨_, _, muldiv_shiftLeft⟩
noncomputable def env102 : Env := mkEnv Try.prog tys eqs []
def ann102 : Anns := fun p c => match p, c with | [102], 0 => some (.tmpl ⟨[.dead, .pl (.int .u64), .ptr 0 [], .dead, .ptr 1 [], .dead, .pl (.int .u64), .pl (.int .i64), .dead, .dead, .dead, .dead, .dead, .dead, .dead, .dead, .dead, .dead, .dead, .dead, .dead, .dead, .dead, .dead, .dead, .dead, .dead, .dead, .dead, .dead, .dead, .dead, .dead, .dead, .dead], [.box (.arr 4 (.int .u64)) (.pl (.arr 4 (.int .u64))), .box (.arr 4 (.int .u64)) (.pl (.arr 4 (.int .u64)))]⟩) | _, _ => none
theorem ev102 : ∀ x, evalFn env102 ann102 102 ⟨[.pl (.arr 4 (.int .u64)), .pl (.int .u64)], []⟩ ⟨[.pl (.arr 4 (.int .u64)), .pl (.int .u64)], []⟩ 60 K0 x = muldiv_shiftLeft x := by intro x; kernel_rfl
theorem ok102 : ConOk Try.prog 102 muldiv_shiftLeftC := con_of_ev (E := env102) (envOk tysOk eqsOk (show HowsOk Try.prog [] from trivial) follows) noOddP fun x _ h => ⟨ann102, 60, K0, (ev102 x).trans h⟩
/-- pontage/muldiv.subWrap -/
noncomputable def muldiv_subWrapC : Con := ⟨_, _, muldiv_subWrap⟩
noncomputable def env103 : Env := mkEnv Try.prog tys eqs [(96, .con sub64C)]
def ann103 : Anns := fun p c => match p, c with | [103], 0 => some (.tmpl ⟨[.dead, .dead, .ptr 0 [], .ptr 1 [], .ptr 2 [], .pl (.int .u64), .dead, .pl (.int .i64), .dead, .dead, .dead, .dead, .dead, .dead, .dead, .dead, .dead, .dead, .dead, .dead, .dead, .dead, .dead, .dead, .dead], [.box (.arr 4 (.int .u64)) (.pl (.arr 4 (.int .u64))), .box (.arr 4 (.int .u64)) (.pl (.arr 4 (.int .u64))), .box (.arr 4 (.int .u64)) (.pl (.arr 4 (.int .u64)))]⟩) | _, _ => none
theorem ev103 : ∀ x, evalFn env103 ann103 103 ⟨[.pl (.arr 4 (.int .u64)), .pl (.arr 4 (.int .u64))], []⟩ ⟨[.pl (.arr 4 (.int .u64))], []⟩ 60 K0 x = muldiv_subWrap x := by intro x; kernel_rfl
theorem ok103 : ConOk Try.prog 103 muldiv_subWrapC := con_of_ev (E := env103) (envOk tysOk eqsOk (show HowsOk Try.prog [(96, .con sub64C)] from (And.intro ok96 trivial)) follows) noOddP fun x _ h => ⟨ann103, 60, K0, (ev103 x).trans h⟩
/-- pontage/muldiv.Div512 -/
noncomputable def muldiv_Div512C : Con := ⟨_, _, muldiv_Div512⟩
noncomputable def env90 : Env := mkEnv Try.prog tys eqs [(21, .con uint256_CmpC), (102, .con muldiv_shiftLeftC), (103, .con muldiv_subWrapC)]
def ann90 : Anns := fun p c => match p, c with | [90], 0 => some (.tmpl ⟨[.dead, .dead, .dead, .ptr 0 [], .dead, .ptr 1 [], .ptr 2 [], .ptr 3 [], .dead, .pl (.int .i64), .dead, .dead, .dead, .dead, .dead, .dead, .dead, .dead, .dead, .dead, .dead, .dead, .dead, .dead, .dead, .dead, .dead, .dead, .dead, .dead, .dead, .dead, .dead, .dead, .dead, .dead, .dead, .dead, .dead, .dead, .dead, .dead, .dead, .dead, .dead, .dead, .dead, .dead, .dead, .dead, .dead, .dead, .dead, .dead, .dead, .dead, .dead, .dead, .dead, .dead, .dead, .dead], [.box (.arr 4 (.int .u64)) (.pl (.arr 4 (.int .u64))), .box (.arr 4 (.int .u64)) (.pl (.arr 4 (.int .u64))), .box (.arr 4 (.int .u64)) (.pl (.arr 4 (.int .u64))), .box (.arr 4 (.int .u64)) (.pl (.arr 4 (.int .u64)))]⟩) | _, _ => none
theorem ev90 : ∀ x, evalFn env90 ann90 90 ⟨[.pl (.arr 4 (.int .u64)), .pl (.arr 4 (.int .u64)), .pl (.arr 4 (.int .u64))], []⟩ ⟨[.pl (.arr 4 (.int .u64)), .pl (.arr 4 (.int .u64)), .pl (.int .i64)], []⟩ 60 K0 x = muldiv_Div512 x := by intro x; kernel_rfl
theorem ok90 : ConOk Try.prog 90 muldiv_Div512C := con_of_ev (E := env90) (envOk tysOk eqsOk (show HowsOk Try.prog [(21, .con uint256_CmpC), (102, .con muldiv_shiftLeftC), (103, .con muldiv_subWrapC)] from (And.intro ok21 (And.intro ok102 (And.intro ok103 trivial)))) follows) noOddP fun x _ h => ⟨ann90, 60, K0, (ev90 x).trans h⟩
/-- pontage/muldiv.DivMod -/
noncomputable def muldiv_DivModC : Con := ⟨_, _, muldiv_DivMod⟩
noncomputable def env65 : Env := mkEnv Try.prog tys eqs [(90, .con muldiv_Div512C)]
def ann65 : Anns := fun _ _ => none
theorem ev65 : ∀ x, evalFn env65 ann65 65 ⟨[.pl (.arr 4 (.int .u64)), .pl (.arr 4 (.int .u64))], []⟩ ⟨[.pl (.arr 4 (.int .u64)), .pl (.arr 4 (.int .u64)), .pl (.int .i64)], []⟩ 60 K0 x = muldiv_DivMod x := by intro x; kernel_rfl
theorem ok65 : ConOk Try.prog 65 muldiv_DivModC := con_of_ev (E := env65) (envOk tysOk eqsOk (show HowsOk Try.prog [(90, .con muldiv_Div512C)] from (And.intro ok90 trivial)) follows) noOddP fun x _ h => ⟨ann65, 60, K0, (ev65 x).trans h⟩
/-- pontage/int256.DivFloor -/
noncomputable def int256_DivFloorC : Con := ⟨_, _, int256_DivFloor⟩
noncomputable def env27 : Env := mkEnv Try.prog tys eqs [(17, .con int256_NewC), (20, .con int256_ValidC), (45, .con uint256_FromUint64C), (61, .con uint256_AddC), (65, .con muldiv_DivModC)]
def ann27 : Anns := fun p c => match p, c with | [1000000, 27], 8 => some (.join ⟨[.dead, .dead, .ptr 0 [], .dead, .ptr 1 [], .dead, .ptr 2 [], .dead, .dead, .dead, .dead, .dead, .dead, .dead, .dead, .dead, .dead, .dead, .dead, .dead, .dead, .dead, .dead, .dead, .dead, .dead, .dead, .dead, .dead, .dead, .dead, .pl .bool, .dead, .dead, .dead, .dead, .dead, .dead, .dead, .dead, .dead, .dead], [.box (.cons .bool (.cons (.arr 4 (.int .u64)) .nil)) (.pl (.cons .bool (.cons (.arr 4 (.int .u64)) .nil))), .box (.cons .bool (.cons (.arr 4 (.int .u64)) .nil)) (.pl (.cons .bool (.cons (.arr 4 (.int .u64)) .nil))), .box (.arr 4 (.int .u64)) (.pl (.arr 4 (.int .u64)))]⟩) | _, _ => none
theorem ev27 : ∀ x, evalFn env27 ann27 27 ⟨[.pl (.cons .bool (.cons (.arr 4 (.int .u64)) .nil)), .pl (.arr 4 (.int .u64))], []⟩ ⟨[.pl (.cons .bool (.cons (.arr 4 (.int .u64)) .nil)), .pl (.int .i64)], []⟩ 60 K0 x = int256_DivFloor x := by intro x; kernel_rfl
theorem ok27 : ConOk Try.prog 27 int256_DivFloorC := con_of_ev (E := env27) (envOk tysOk eqsOk (show HowsOk Try.prog [(17, .con int256_NewC), (20, .con int256_ValidC), (45, .con uint256_FromUint64C), (61, .con uint256_AddC), (65, .con muldiv_DivModC)] from (And.intro ok17 (And.intro ok20 (And.intro ok45 (And.intro ok61 (And.intro ok65 trivial)))))) follows) noOddP fun x _ h => ⟨ann27, 60, K0, (ev27 x).trans h⟩
/-- pontage/uint256.maxValue -/
noncomputable def uint256_maxValueC : Con := ⟨_, _, uint256_maxValue⟩
noncomputable def env79 : Env := mkEnv Try.prog tys eqs []
def ann79 : Anns := fun _ _ => none
theorem ev79 : ∀ x, evalFn env79 ann79 79 ⟨[], []⟩ ⟨[.pl (.arr 4 (.int .u64))], []⟩ 60 K0 x = uint256_maxValue x := by intro x; kernel_rfl
theorem ok79 : ConOk Try.prog 79 uint256_maxValueC := con_of_ev (E := env79) (envOk tysOk eqsOk (show HowsOk Try.prog [] from trivial) follows) noOddP fun x _ h => ⟨ann79, 60, K0, (ev79 x).trans h⟩
/-- pontage/uint256.SaturatingAdd -/
noncomputable def uint256_SaturatingAddC : Con := ⟨_, _, uint256_SaturatingAdd⟩
noncomputable def env39 : Env := mkEnv Try.prog tys eqs [(61, .con uint256_AddC), (79, .con uint256_maxValueC)]
def ann39 : Anns := fun _ _ => none
theorem ev39 : ∀ x, evalFn env39 ann39 39 ⟨[.pl (.arr 4 (.int .u64)), .pl (.arr 4 (.int .u64))], []⟩ ⟨[.pl (.arr 4 (.int .u64))], []⟩ 60 K0 x = uint256_SaturatingAdd x := by intro x; kernel_rfl
theorem ok39 : ConOk Try.prog 39 uint256_SaturatingAddC := con_of_ev (E := env39) (envOk tysOk eqsOk (show HowsOk Try.prog [(61, .con uint256_AddC), (79, .con uint256_maxValueC)] from (And.intro ok61 (And.intro ok79 trivial))) follows) noOddP fun x _ h => ⟨ann39, 60, K0, (ev39 x).trans h⟩
/-- pontage/params.Get -/
noncomputable def params_GetC : Con := ⟨_, _, params_Get⟩
noncomputable def env98 : Env := mkEnv Try.prog tys eqs [(45, .con uint256_FromUint64C), (106, .inl), (107, .inl)]
def ann98 : Anns := fun _ _ => none
theorem ev98 : ∀ x, evalFn env98 ann98 98 ⟨[.pl (.cons (.int .u64) (.cons (.int .u64) (.cons (.int .u64) (.cons (.arr 4 (.int .u64)) (.cons (.int .u64) (.cons (.arr 4 (.int .u64)) (.cons (.int .u64) (.cons (.arr 4 (.int .u64)) (.cons (.int .u64) (.cons (.int .u64) (.cons (.int .u64) (.cons (.int .u64) .nil)))))))))))), .pl (.int .i64)], []⟩ ⟨[.pl (.arr 4 (.int .u64)), .pl (.int .i64)], []⟩ 90 K0 x = params_Get x := by intro x; kernel_rfl
theorem ok98 : ConOk Try.prog 98 params_GetC := con_of_ev (E := env98) (envOk tysOk eqsOk (show HowsOk Try.prog [(45, .con uint256_FromUint64C), (106, .inl), (107, .inl)] from (And.intro ok45 trivial)) follows) noOddP fun x _ h => ⟨ann98, 90, K0, (ev98 x).trans h⟩
/-- pontage/params.bounds -/
noncomputable def params_boundsC : Con := ⟨_, _, params_bounds⟩
noncomputable def env99 : Env := mkEnv Try.prog tys eqs []
def ann99 : Anns := fun p c => match p, c with | [1000000, 99], 12 => some (.join ⟨[.dead, .dead, .ptr 0 [], .dead, .dead, .dead, .pl (.int .i64), .dead, .dead, .dead, .dead, .dead, .dead, .dead, .pl .bool, .dead, .dead, .dead, .dead, .dead, .dead, .dead, .dead, .dead, .dead], [.box (.cons (.int .u64) (.cons (.int .u64) (.cons (.int .u64) (.cons (.arr 4 (.int .u64)) (.cons (.int .u64) (.cons (.arr 4 (.int .u64)) (.cons (.int .u64) (.cons (.arr 4 (.int .u64)) (.cons (.int .u64) (.cons (.int .u64) (.cons (.int .u64) (.cons (.int .u64) .nil)))))))))))) (.pl (.cons (.int .u64) (.cons (.int .u64) (.cons (.int .u64) (.cons (.arr 4 (.int .u64)) (.cons (.int .u64) (.cons (.arr 4 (.int .u64)) (.cons (.int .u64) (.cons (.arr 4 (.int .u64)) (.cons (.int .u64) (.cons (.int .u64) (.cons (.int .u64) (.cons (.int .u64) .nil)))))))))))))]⟩) | [1000000, 99], 6 => some (.join ⟨[.dead, .dead, .ptr 0 [], .dead, .dead, .dead, .pl (.int .i64), .pl .bool, .dead, .dead, .dead, .dead, .dead, .dead, .dead, .dead, .dead, .dead, .dead, .dead, .dead, .dead, .dead, .dead, .dead], [.box (.cons (.int .u64) (.cons (.int .u64) (.cons (.int .u64) (.cons (.arr 4 (.int .u64)) (.cons (.int .u64) (.cons (.arr 4 (.int .u64)) (.cons (.int .u64) (.cons (.arr 4 (.int .u64)) (.cons (.int .u64) (.cons (.int .u64) (.cons (.int .u64) (.cons (.int .u64) .nil)))))))))))) (.pl (.cons (.int .u64) (.cons (.int .u64) (.cons (.int .u64) (.cons (.arr 4 (.int .u64)) (.cons (.int .u64) (.cons (.arr 4 (.int .u64)) (.cons (.int .u64) (.cons (.arr 4 (.int .u64)) (.cons (.int .u64) (.cons (.int .u64) (.cons (.int .u64) (.cons (.int .u64) .nil)))))))))))))]⟩) | [1000000, 99], 9 => some (.join ⟨[.dead, .dead, .ptr 0 [], .dead, .dead, .dead, .pl (.int .i64), .dead, .dead, .dead, .dead, .pl .bool, .dead, .dead, .dead, .dead, .dead, .dead, .dead, .dead, .dead, .dead, .dead, .dead, .dead], [.box (.cons (.int .u64) (.cons (.int .u64) (.cons (.int .u64) (.cons (.arr 4 (.int .u64)) (.cons (.int .u64) (.cons (.arr 4 (.int .u64)) (.cons (.int .u64) (.cons (.arr 4 (.int .u64)) (.cons (.int .u64) (.cons (.int .u64) (.cons (.int .u64) (.cons (.int .u64) .nil)))))))))))) (.pl (.cons (.int .u64) (.cons (.int .u64) (.cons (.int .u64) (.cons (.arr 4 (.int .u64)) (.cons (.int .u64) (.cons (.arr 4 (.int .u64)) (.cons (.int .u64) (.cons (.arr 4 (.int .u64)) (.cons (.int .u64) (.cons (.int .u64) (.cons (.int .u64) (.cons (.int .u64) .nil)))))))))))))]⟩) | _, _ => none
theorem ev99 : ∀ x, evalFn env99 ann99 99 ⟨[.pl (.cons (.int .u64) (.cons (.int .u64) (.cons (.int .u64) (.cons (.arr 4 (.int .u64)) (.cons (.int .u64) (.cons (.arr 4 (.int .u64)) (.cons (.int .u64) (.cons (.arr 4 (.int .u64)) (.cons (.int .u64) (.cons (.int .u64) (.cons (.int .u64) (.cons (.int .u64) .nil)))))))))))), .pl (.int .i64)], []⟩ ⟨[.pl (.int .u64), .pl (.int .u64)], []⟩ 60 K0 x = params_bounds x := by intro x; kernel_rfl
theorem ok99 : ConOk Try.prog 99 params_boundsC := con_of_ev (E := env99) (envOk tysOk eqsOk (show HowsOk Try.prog [] from trivial) follows) noOddP fun x _ h => ⟨ann99, 60, K0, (ev99 x).trans h⟩
/-- pontage/params.FirstInvalid -/
noncomputable def params_FirstInvalidC : Con := ⟨_, _, params_FirstInvalid⟩
noncomputable def env83 : Env := mkEnv Try.prog tys eqs [(21, .con uint256_CmpC), (45, .con uint256_FromUint64C), (98, .con params_GetC), (99, .con params_boundsC)]
def ann83 : Anns := fun p c => match p, c with | [83], 0 => some (.tmpl ⟨[.dead, .ptr 0 [], .dead, .pl (.int .i64), .dead, .dead, .dead, .dead, .dead, .dead, .dead, .dead, .dead, .dead, .dead, .dead, .dead, .dead, .dead, .dead, .dead, .dead, .dead, .dead, .dead, .dead, .dead, .dead, .dead, .dead, .dead, .dead, .dead, .dead, .dead, .dead, .dead], [.box (.cons (.int .u64) (.cons (.int .u64) (.cons (.int .u64) (.cons (.arr 4 (.int .u64)) (.cons (.int .u64) (.cons (.arr 4 (.int .u64)) (.cons (.int .u64) (.cons (.arr 4 (.int .u64)) (.cons (.int .u64) (.cons (.int .u64) (.cons (.int .u64) (.cons (.int .u64) .nil)))))))))))) (.pl (.cons (.int .u64) (.cons (.int .u64) (.cons (.int .u64) (.cons (.arr 4 (.int .u64)) (.cons (.int .u64) (.cons (.arr 4 (.int .u64)) (.cons (.int .u64) (.cons (.arr 4 (.int .u64)) (.cons (.int .u64) (.cons (.int .u64) (.cons (.int .u64) (.cons (.int .u64) .nil)))))))))))))]⟩) | _, _ => none
theorem ev83 : ∀ x, evalFn env83 ann83 83 ⟨[.pl (.cons (.int .u64) (.cons (.int .u64) (.cons (.int .u64) (.cons (.arr 4 (.int .u64)) (.cons (.int .u64) (.cons (.arr 4 (.int .u64)) (.cons (.int .u64) (.cons (.arr 4 (.int .u64)) (.cons (.int .u64) (.cons (.int .u64) (.cons (.int .u64) (.cons (.int .u64) .nil))))))))))))], []⟩ ⟨[.pl (.int .i64)], []⟩ 60 K0 x = params_FirstInvalid x := by intro x; kernel_rfl
theorem ok83 : ConOk Try.prog 83 params_FirstInvalidC := con_of_ev (E := env83) (envOk tysOk eqsOk (show HowsOk Try.prog [(21, .con uint256_CmpC), (45, .con uint256_FromUint64C), (98, .con params_GetC), (99, .con params_boundsC)] from (And.intro ok21 (And.intro ok45 (And.intro ok98 (And.intro ok99 trivial))))) follows) noOddP fun x _ h => ⟨ann83, 60, K0, (ev83 x).trans h⟩
/-- pontage/params.Valid -/
noncomputable def params_ValidC : Con := ⟨_, _, params_Valid⟩
noncomputable def env44 : Env := mkEnv Try.prog tys eqs [(83, .con params_FirstInvalidC)]
def ann44 : Anns := fun _ _ => none
theorem ev44 : ∀ x, evalFn env44 ann44 44 ⟨[.pl (.cons (.int .u64) (.cons (.int .u64) (.cons (.int .u64) (.cons (.arr 4 (.int .u64)) (.cons (.int .u64) (.cons (.arr 4 (.int .u64)) (.cons (.int .u64) (.cons (.arr 4 (.int .u64)) (.cons (.int .u64) (.cons (.int .u64) (.cons (.int .u64) (.cons (.int .u64) .nil))))))))))))], []⟩ ⟨[.pl .bool], []⟩ 60 K0 x = params_Valid x := by intro x; kernel_rfl
theorem ok44 : ConOk Try.prog 44 params_ValidC := con_of_ev (E := env44) (envOk tysOk eqsOk (show HowsOk Try.prog [(83, .con params_FirstInvalidC)] from (And.intro ok83 trivial)) follows) noOddP fun x _ h => ⟨ann44, 60, K0, (ev44 x).trans h⟩
/-- math/bits.Mul64 -/
noncomputable def math_bits_Mul64C : Con := ⟨_, _, math_bits_Mul64⟩
noncomputable def env81 : Env := mkEnv Try.prog tys eqs []
def ann81 : Anns := fun _ _ => none
theorem ev81 : ∀ x, evalFn env81 ann81 81 ⟨[.pl (.int .u64), .pl (.int .u64)], []⟩ ⟨[.pl (.int .u64), .pl (.int .u64)], []⟩ 60 K0 x = math_bits_Mul64 x := by intro x; kernel_rfl
theorem ok81 : ConOk Try.prog 81 math_bits_Mul64C := con_of_ev (E := env81) (envOk tysOk eqsOk (show HowsOk Try.prog [] from trivial) follows) noOddP fun x _ h => ⟨ann81, 60, K0, (ev81 x).trans h⟩
/-- pontage/uint256.Mul -/
noncomputable def uint256_MulC : Con := ⟨_, _, uint256_Mul⟩
noncomputable def env42 : Env := mkEnv Try.prog tys eqs [(81, .con math_bits_Mul64C), (82, .con add64C)]
def ann42 : Anns := fun p c => match p, c with | [42], 0 => some (.tmpl ⟨[.dead, .dead, .ptr 0 [], .ptr 1 [], .ptr 2 [], .dead, .ptr 3 [], .dead, .dead, .dead, .dead, .dead, .dead, .pl (.int .i64), .dead, .dead, .dead, .dead, .dead, .dead, .dead, .dead, .dead, .dead, .dead, .dead, .dead, .dead, .dead, .dead, .dead, .dead, .dead, .dead, .dead, .dead, .dead, .dead, .dead, .dead, .dead, .dead, .dead, .dead, .dead, .dead, .dead, .dead, .dead, .dead, .dead, .dead, .dead, .dead, .dead, .dead, .dead, .dead, .dead, .dead, .dead, .dead, .dead, .dead, .dead, .dead, .dead, .dead, .dead, .dead], [.box (.arr 4 (.int .u64)) (.pl (.arr 4 (.int .u64))), .box (.arr 4 (.int .u64)) (.pl (.arr 4 (.int .u64))), .box (.arr 4 (.int .u64)) (.pl (.arr 4 (.int .u64))), .box (.arr 4 (.int .u64)) (.pl (.arr 4 (.int .u64)))]⟩) | [42], 2 => some (.tmpl ⟨[.dead, .dead, .ptr 0 [], .ptr 1 [], .ptr 2 [], .dead, .ptr 3 [], .pl (.int .i64), .pl (.int .u64), .dead, .dead, .dead, .dead, .pl (.int .i64), .dead, .dead, .pl (.int .i64), .dead, .dead, .dead, .dead, .dead, .dead, .dead, .dead, .dead, .dead, .dead, .dead, .dead, .dead, .dead, .dead, .dead, .dead, .dead, .dead, .dead, .dead, .dead, .dead, .dead, .dead, .dead, .dead, .dead, .dead, .dead, .dead, .dead, .dead, .dead, .dead, .dead, .dead, .dead, .dead, .dead, .dead, .dead, .dead, .dead, .dead, .dead, .dead, .dead, .dead, .dead, .dead, .dead], [.box (.arr 4 (.int .u64)) (.pl (.arr 4 (.int .u64))), .box (.arr 4 (.int .u64)) (.pl (.arr 4 (.int .u64))), .box (.arr 4 (.int .u64)) (.pl (.arr 4 (.int .u64))), .box (.arr 4 (.int .u64)) (.pl (.arr 4 (.int .u64)))]⟩) | _, _ => none
theorem ev42 : ∀ x, evalFn env42 ann42 42 ⟨[.pl (.arr 4 (.int .u64)), .pl (.arr 4 (.int .u64))], []⟩ ⟨[.pl (.arr 4 (.int .u64)), .pl (.int .i64)], []⟩ 60 K0 x = uint256_Mul x := by intro x; kernel_rfl
theorem ok42 : ConOk Try.prog 42 uint256_MulC := con_of_ev (E := env42) (envOk tysOk eqsOk (show HowsOk Try.prog [(81, .con math_bits_Mul64C), (82, .con add64C)] from (And.intro ok81 (And.intro ok82 trivial))) follows) noOddP fun x _ h => ⟨ann42, 60, K0, (ev42 x).trans h⟩
/-- pontage/int256.Mul -/
noncomputable def int256_MulC : Con := ⟨_, _, int256_Mul⟩
noncomputable def env46 : Env := mkEnv Try.prog tys eqs [(17, .con int256_NewC), (20, .con int256_ValidC), (42, .con uint256_MulC)]
def ann46 : Anns := fun p c => match p, c with | [1000000, 46], 4 => some (.join ⟨[.dead, .dead, .ptr 0 [], .ptr 1 [], .ptr 2 [], .dead, .dead, .dead, .dead, .dead, .dead, .dead, .dead, .dead, .dead, .dead, .dead, .dead, .dead, .dead, .dead, .dead, .dead, .dead, .dead, .dead, .dead, .dead, .dead, .dead, .dead, .dead, .dead, .dead, .dead, .dead], [.box (.cons .bool (.cons (.arr 4 (.int .u64)) .nil)) (.pl (.cons .bool (.cons (.arr 4 (.int .u64)) .nil))), .box (.cons .bool (.cons (.arr 4 (.int .u64)) .nil)) (.pl (.cons .bool (.cons (.arr 4 (.int .u64)) .nil))), .box (.cons .bool (.cons (.arr 4 (.int .u64)) .nil)) (.pl (.cons .bool (.cons (.arr 4 (.int .u64)) .nil)))]⟩) | _, _ => none
theorem ev46 : ∀ x, evalFn env46 ann46 46 ⟨[.pl (.cons .bool (.cons (.arr 4 (.int .u64)) .nil)), .pl (.cons .bool (.cons (.arr 4 (.int .u64)) .nil))], []⟩ ⟨[.pl (.cons .bool (.cons (.arr 4 (.int .u64)) .nil)), .pl (.int .i64)], []⟩ 60 K0 x = int256_Mul x := by intro x; kernel_rfl
theorem ok46 : ConOk Try.prog 46 int256_MulC := con_of_ev (E := env46) (envOk tysOk eqsOk (show HowsOk Try.prog [(17, .con int256_NewC), (20, .con int256_ValidC), (42, .con uint256_MulC)] from (And.intro ok17 (And.intro ok20 (And.intro ok42 trivial)))) follows) noOddP fun x _ h => ⟨ann46, 60, K0, (ev46 x).trans h⟩
/-- pontage/l1price.Delta -/
noncomputable def l1price_DeltaC : Con := ⟨_, _, l1price_Delta⟩
noncomputable def env13 : Env := mkEnv Try.prog tys eqs [(20, .con int256_ValidC), (25, .con int256_NegC), (26, .con int256_SubC), (27, .con int256_DivFloorC), (39, .con uint256_SaturatingAddC), (44, .con params_ValidC), (45, .con uint256_FromUint64C), (46, .con int256_MulC)]
def ann13 : Anns := fun p c => match p, c with | [1000000, 13], 6 => some (.join ⟨[.dead, .dead, .pl (.int .u64), .dead, .ptr 0 [], .ptr 1 [], .dead, .ptr 2 [], .ptr 3 [], .dead, .dead, .dead, .dead, .dead, .dead, .dead, .dead, .dead, .dead, .dead, .dead, .dead, .dead, .dead, .dead, .dead, .dead, .dead, .dead, .dead, .dead, .dead, .dead, .dead, .dead, .dead, .dead, .dead, .dead, .dead, .dead, .dead, .dead, .dead, .dead, .dead, .dead, .dead, .dead, .dead, .dead, .dead, .dead, .dead, .dead, .dead, .dead, .dead, .dead, .dead, .dead, .dead, .dead, .dead, .dead, .dead, .dead, .dead, .dead, .dead, .dead, .dead, .dead, .dead, .dead, .dead, .dead, .dead, .dead, .dead, .dead, .dead, .dead, .dead, .dead, .dead, .dead, .dead, .dead, .dead, .dead, .dead, .dead, .dead, .dead, .dead, .dead, .dead, .dead, .dead, .dead, .dead, .dead, .dead, .dead], [.box (.cons .bool (.cons (.arr 4 (.int .u64)) .nil)) (.pl (.cons .bool (.cons (.arr 4 (.int .u64)) .nil))), .box (.cons .bool (.cons (.arr 4 (.int .u64)) .nil)) (.pl (.cons .bool (.cons (.arr 4 (.int .u64)) .nil))), .box (.cons (.int .u64) (.cons (.int .u64) (.cons (.int .u64) (.cons (.arr 4 (.int .u64)) (.cons (.int .u64) (.cons (.arr 4 (.int .u64)) (.cons (.int .u64) (.cons (.arr 4 (.int .u64)) (.cons (.int .u64) (.cons (.int .u64) (.cons (.int .u64) (.cons (.int .u64) .nil)))))))))))) (.pl (.cons (.int .u64) (.cons (.int .u64) (.cons (.int .u64) (.cons (.arr 4 (.int .u64)) (.cons (.int .u64) (.cons (.arr 4 (.int .u64)) (.cons (.int .u64) (.cons (.arr 4 (.int .u64)) (.cons (.int .u64) (.cons (.int .u64) (.cons (.int .u64) (.cons (.int .u64) .nil))))))))))))), .box (.cons .bool (.cons (.arr 4 (.int .u64)) .nil)) (.pl (.cons .bool (.cons (.arr 4 (.int .u64)) .nil)))]⟩) | _, _ => none
theorem ev13 : ∀ x, evalFn env13 ann13 13 ⟨[.pl (.cons .bool (.cons (.arr 4 (.int .u64)) .nil)), .pl (.cons .bool (.cons (.arr 4 (.int .u64)) .nil)), .pl (.int .u64), .pl (.cons (.int .u64) (.cons (.int .u64) (.cons (.int .u64) (.cons (.arr 4 (.int .u64)) (.cons (.int .u64) (.cons (.arr 4 (.int .u64)) (.cons (.int .u64) (.cons (.arr 4 (.int .u64)) (.cons (.int .u64) (.cons (.int .u64) (.cons (.int .u64) (.cons (.int .u64) .nil))))))))))))], []⟩ ⟨[.pl (.cons .bool (.cons (.arr 4 (.int .u64)) .nil)), .pl (.int .i64)], []⟩ 60 K0 x = l1price_Delta x := by intro x; kernel_rfl
theorem ok13 : ConOk Try.prog 13 l1price_DeltaC := con_of_ev (E := env13) (envOk tysOk eqsOk (show HowsOk Try.prog [(20, .con int256_ValidC), (25, .con int256_NegC), (26, .con int256_SubC), (27, .con int256_DivFloorC), (39, .con uint256_SaturatingAddC), (44, .con params_ValidC), (45, .con uint256_FromUint64C), (46, .con int256_MulC)] from (And.intro ok20 (And.intro ok25 (And.intro ok26 (And.intro ok27 (And.intro ok39 (And.intro ok44 (And.intro ok45 (And.intro ok46 trivial))))))))) follows) noOddP fun x _ h => ⟨ann13, 60, K0, (ev13 x).trans h⟩
/-- pontage/pontageref12.in -/
noncomputable def pontageref12_inC : Con := ⟨_, _, pontageref12_in⟩
noncomputable def env100 : Env := mkEnv Try.prog tys eqs []
def ann100 : Anns := fun _ _ => none
theorem ev100 : ∀ x, evalFn env100 ann100 100 ⟨[.pl (.int .u64), .pl (.int .u64), .pl (.int .u64)], []⟩ ⟨[.pl .bool], []⟩ 60 K0 x = pontageref12_in x := by intro x; kernel_rfl
theorem ok100 : ConOk Try.prog 100 pontageref12_inC := con_of_ev (E := env100) (envOk tysOk eqsOk (show HowsOk Try.prog [] from trivial) follows) noOddP fun x _ h => ⟨ann100, 60, K0, (ev100 x).trans h⟩
/-- pontage/pontageref1.Uint64 -/
noncomputable def pontageref1_Uint64C : Con := ⟨_, _, pontageref1_Uint64⟩
noncomputable def env108 : Env := mkEnv Try.prog tys eqs []
def ann108 : Anns := fun _ _ => none
theorem ev108 : ∀ x, evalFn env108 ann108 108 ⟨[.pl (.arr 4 (.int .u64))], []⟩ ⟨[.pl (.int .u64), .pl .bool], []⟩ 60 K0 x = pontageref1_Uint64 x := by intro x; kernel_rfl
theorem ok108 : ConOk Try.prog 108 pontageref1_Uint64C := con_of_ev (E := env108) (envOk tysOk eqsOk (show HowsOk Try.prog [] from trivial) follows) noOddP fun x _ h => ⟨ann108, 60, K0, (ev108 x).trans h⟩
/-- pontage/pontageref12.atLeast -/
noncomputable def pontageref12_atLeastC : Con := ⟨_, _, pontageref12_atLeast⟩
noncomputable def env101 : Env := mkEnv Try.prog tys eqs [(108, .con pontageref1_Uint64C)]
def ann101 : Anns := fun _ _ => none
theorem ev101 : ∀ x, evalFn env101 ann101 101 ⟨[.pl (.arr 4 (.int .u64)), .pl (.int .u64)], []⟩ ⟨[.pl .bool], []⟩ 60 K0 x = pontageref12_atLeast x := by intro x; kernel_rfl
theorem ok101 : ConOk Try.prog 101 pontageref12_atLeastC := con_of_ev (E := env101) (envOk tysOk eqsOk (show HowsOk Try.prog [(108, .con pontageref1_Uint64C)] from (And.intro ok108 trivial)) follows) noOddP fun x _ h => ⟨ann101, 60, K0, (ev101 x).trans h⟩
/-- pontage/pontageref12.FirstInvalid -/
noncomputable def pontageref12_FirstInvalidC : Con := ⟨_, _, pontageref12_FirstInvalid⟩
noncomputable def env84 : Env := mkEnv Try.prog tys eqs [(100, .con pontageref12_inC), (101, .con pontageref12_atLeastC)]
def ann84 : Anns := fun p _ => match p with | 1000000 :: _ => none | _ => some (.unroll 14)
theorem ev84 : ∀ x, evalFn env84 ann84 84 ⟨[.pl (.cons (.int .u64) (.cons (.int .u64) (.cons (.int .u64) (.cons (.arr 4 (.int .u64)) (.cons (.int .u64) (.cons (.arr 4 (.int .u64)) (.cons (.int .u64) (.cons (.arr 4 (.int .u64)) (.cons (.int .u64) (.cons (.int .u64) (.cons (.int .u64) (.cons (.int .u64) .nil))))))))))))], []⟩ ⟨[.pl (.int .i64)], []⟩ 90 K0 x = pontageref12_FirstInvalid x := by intro x; kernel_rfl
theorem ok84 : ConOk Try.prog 84 pontageref12_FirstInvalidC := con_of_ev (E := env84) (envOk tysOk eqsOk (show HowsOk Try.prog [(100, .con pontageref12_inC), (101, .con pontageref12_atLeastC)] from (And.intro ok100 (And.intro ok101 trivial))) follows) noOddP fun x _ h => ⟨ann84, 90, K0, (ev84 x).trans h⟩
/-- pontage/pontageref12.Valid -/
noncomputable def pontageref12_ValidC : Con := ⟨_, _, pontageref12_Valid⟩
noncomputable def env47 : Env := mkEnv Try.prog tys eqs [(84, .con pontageref12_FirstInvalidC)]
def ann47 : Anns := fun _ _ => none
theorem ev47 : ∀ x, evalFn env47 ann47 47 ⟨[.pl (.cons (.int .u64) (.cons (.int .u64) (.cons (.int .u64) (.cons (.arr 4 (.int .u64)) (.cons (.int .u64) (.cons (.arr 4 (.int .u64)) (.cons (.int .u64) (.cons (.arr 4 (.int .u64)) (.cons (.int .u64) (.cons (.int .u64) (.cons (.int .u64) (.cons (.int .u64) .nil))))))))))))], []⟩ ⟨[.pl .bool], []⟩ 60 K0 x = pontageref12_Valid x := by intro x; kernel_rfl
theorem ok47 : ConOk Try.prog 47 pontageref12_ValidC := con_of_ev (E := env47) (envOk tysOk eqsOk (show HowsOk Try.prog [(84, .con pontageref12_FirstInvalidC)] from (And.intro ok84 trivial)) follows) noOddP fun x _ h => ⟨ann47, 60, K0, (ev47 x).trans h⟩
/-- pontage/pontageref1.IsZero -/
noncomputable def pontageref1_IsZeroC : Con := ⟨_, _, pontageref1_IsZero⟩
noncomputable def env85 : Env := mkEnv Try.prog tys eqs []
def ann85 : Anns := fun _ _ => none
theorem ev85 : ∀ x, evalFn env85 ann85 85 ⟨[.pl (.arr 4 (.int .u64))], []⟩ ⟨[.pl .bool], []⟩ 60 K0 x = pontageref1_IsZero x := by intro x; kernel_rfl
theorem ok85 : ConOk Try.prog 85 pontageref1_IsZeroC := con_of_ev (E := env85) (envOk tysOk eqsOk (show HowsOk Try.prog [] from trivial) follows) noOddP fun x _ h => ⟨ann85, 60, K0, (ev85 x).trans h⟩
/-- pontage/pontageref3.Valid -/
noncomputable def pontageref3_ValidC : Con := ⟨_, _, pontageref3_Valid⟩
noncomputable def env48 : Env := mkEnv Try.prog tys eqs [(85, .con pontageref1_IsZeroC)]
def ann48 : Anns := fun _ _ => none
theorem ev48 : ∀ x, evalFn env48 ann48 48 ⟨[.pl (.cons .bool (.cons (.arr 4 (.int .u64)) .nil))], []⟩ ⟨[.pl .bool], []⟩ 60 K0 x = pontageref3_Valid x := by intro x; kernel_rfl
theorem ok48 : ConOk Try.prog 48 pontageref3_ValidC := con_of_ev (E := env48) (envOk tysOk eqsOk (show HowsOk Try.prog [(85, .con pontageref1_IsZeroC)] from (And.intro ok85 trivial)) follows) noOddP fun x _ h => ⟨ann48, 60, K0, (ev48 x).trans h⟩
/-- pontage/pontageref1.norm -/
noncomputable def pontageref1_normC : Con := ⟨_, _, pontageref1_norm⟩
noncomputable def env88 : Env := mkEnv Try.prog tys eqs []
def ann88 : Anns := fun p c => match p, c with | [88], 0 => some (.tmpl ⟨[.pl (.sl (.int .i64)), .dead, .dead, .pl (.int .i64), .dead, .dead, .dead, .dead, .dead, .dead, .dead, .dead, .dead, .dead, .dead, .dead, .dead, .dead, .dead, .dead, .dead], []⟩) | _, _ => none
theorem ev88 : ∀ x, evalFn env88 ann88 88 ⟨[.pl (.sl (.int .i64))], []⟩ ⟨[.pl (.sl (.int .i64))], []⟩ 60 K0 x = pontageref1_norm x := by intro x; kernel_rfl
theorem ok88 : ConOk Try.prog 88 pontageref1_normC := con_of_ev (E := env88) (envOk tysOk eqsOk (show HowsOk Try.prog [] from trivial) follows) noOddP fun x _ h => ⟨ann88, 60, K0, (ev88 x).trans h⟩
/-- pontage/pontageref1.FromUint256 -/
noncomputable def pontageref1_FromUint256C : Con := ⟨_, _, pontageref1_FromUint256⟩
noncomputable def env63 : Env := mkEnv Try.prog tys eqs [(88, .con pontageref1_normC)]
def ann63 : Anns := fun p c => match p, c with | [63], 0 => some (.tmpl ⟨[.dead, .ptr 0 [], .dead, .whole 1, .pl (.int .i64), .dead, .dead, .dead, .dead, .dead, .dead, .dead, .dead, .dead, .dead, .dead, .dead, .dead, .dead, .dead, .dead, .dead, .dead, .dead, .dead, .dead], [.box (.arr 4 (.int .u64)) (.pl (.arr 4 (.int .u64))), .row (.int .i64)]⟩) | _, _ => none
theorem ev63 : ∀ x, evalFn env63 ann63 63 ⟨[.pl (.arr 4 (.int .u64))], []⟩ ⟨[.pl (.sl (.int .i64))], []⟩ 60 K0 x = pontageref1_FromUint256 x := by intro x; kernel_rfl
theorem ok63 : ConOk Try.prog 63 pontageref1_FromUint256C := con_of_ev (E := env63) (envOk tysOk eqsOk (show HowsOk Try.prog [(88, .con pontageref1_normC)] from (And.intro ok88 trivial)) follows) noOddP fun x _ h => ⟨ann63, 60, K0, (ev63 x).trans h⟩
/-- pontage/pontageref1.FromUint64 -/
noncomputable def pontageref1_FromUint64C : Con := ⟨_, _, pontageref1_FromUint64⟩
noncomputable def env52 : Env := mkEnv Try.prog tys eqs [(63, .con pontageref1_FromUint256C)]
def ann52 : Anns := fun _ _ => none
theorem ev52 : ∀ x, evalFn env52 ann52 52 ⟨[.pl (.int .u64)], []⟩ ⟨[.pl (.sl (.int .i64))], []⟩ 60 K0 x = pontageref1_FromUint64 x := by intro x; kernel_rfl
theorem ok52 : ConOk Try.prog 52 pontageref1_FromUint64C := con_of_ev (E := env52) (envOk tysOk eqsOk (show HowsOk Try.prog [(63, .con pontageref1_FromUint256C)] from (And.intro ok63 trivial)) follows) noOddP fun x _ h => ⟨ann52, 60, K0, (ev52 x).trans h⟩
/-- pontage/pontageref1.Sub -/
noncomputable def pontageref1_SubC : Con := ⟨_, _, pontageref1_Sub⟩
noncomputable def env75 : Env := mkEnv Try.prog tys eqs [(88, .inl)]
def ann75 : Anns := fun p c => match p, c with | [1000000, 75], 10 => some (.join ⟨[.pl (.sl (.int .i64)), .pl (.sl (.int .i64)), .dead, .dead, .dead, .whole 0, .dead, .pl (.int .i64), .pl (.int .i64), .dead, .dead, .dead, .dead, .dead, .dead, .dead, .dead, .dead, .dead, .dead, .dead, .dead, .dead, .dead, .dead, .dead, .dead, .dead, .dead, .dead, .dead, .dead, .dead, .dead, .dead, .dead, .dead, .dead, .dead, .dead, .dead, .dead, .dead, .dead], [.row (.int .i64)]⟩) | [75], 0 => some (.tmpl ⟨[.pl (.sl (.int .i64)), .pl (.sl (.int .i64)), .dead, .dead, .dead, .whole 0, .pl (.int .i64), .pl (.int .i64), .dead, .dead, .dead, .dead, .dead, .dead, .dead, .dead, .dead, .dead, .dead, .dead, .dead, .dead, .dead, .dead, .dead, .dead, .dead, .dead, .dead, .dead, .dead, .dead, .dead, .dead, .dead, .dead, .dead, .dead, .dead, .dead, .dead, .dead, .dead, .dead], [.row (.int .i64)]⟩) | [88, 14, 1, 75], 0 => some (.tmpl ⟨[.whole 0, .dead, .dead, .pl (.int .i64), .dead, .dead, .dead, .dead, .dead, .dead, .dead, .dead, .dead, .dead, .dead, .dead, .dead, .dead, .dead, .dead, .dead, .dead, .dead, .dead, .dead, .dead, .dead, .dead, .dead, .dead, .dead, .dead, .dead, .dead, .dead, .dead, .dead, .dead, .dead, .dead, .dead, .dead, .dead, .dead, .dead, .dead, .dead, .dead, .dead, .dead, .dead, .dead, .dead, .dead, .dead, .dead, .dead, .dead, .dead, .dead, .dead, .dead, .dead, .dead, .dead], [.row (.int .i64)]⟩) | _, _ => none
theorem ev75 : ∀ x, evalFresh env75 ann75 75 ⟨[.pl (.sl (.int .i64)), .pl (.sl (.int .i64))], []⟩ ⟨[.pl (.sl (.int .i64))], []⟩ 80 K0 x = pontageref1_Sub x := by intro x; kernel_rfl
theorem okf75 : ConFresh Try.prog 75 pontageref1_SubC := fresh_of_ev (E := env75) (envOk tysOk eqsOk (show HowsOk Try.prog [(88, .inl)] from trivial) follows) noOddP fun x _ h => ⟨ann75, 80, K0, (ev75 x).trans h⟩
theorem ok75 : ConOk Try.prog 75 pontageref1_SubC := okf75.con
/-- pontage/pontageref1.Cmp -/
noncomputable def pontageref1_CmpC : Con := ⟨_, _, pontageref1_Cmp⟩
noncomputable def env86 : Env := mkEnv Try.prog tys eqs []
def ann86 : Anns := fun p c => match p, c with | [86], 0 => some (.tmpl ⟨[.pl (.sl (.int .i64)), .pl (.sl (.int .i64)), .dead, .dead, .dead, .pl (.int .i64), .dead, .dead, .dead, .dead, .dead, .dead, .dead, .dead, .dead, .dead, .dead, .dead, .dead, .dead, .dead, .dead, .dead, .dead, .dead, .dead, .dead, .dead, .dead, .dead, .dead, .dead, .dead, .dead, .dead, .dead, .dead, .dead, .dead, .dead, .dead], []⟩) | _, _ => none
theorem ev86 : ∀ x, evalFn env86 ann86 86 ⟨[.pl (.sl (.int .i64)), .pl (.sl (.int .i64))], []⟩ ⟨[.pl (.int .i64)], []⟩ 60 K0 x = pontageref1_Cmp x := by intro x; kernel_rfl
theorem ok86 : ConOk Try.prog 86 pontageref1_CmpC := con_of_ev (E := env86) (envOk tysOk eqsOk (show HowsOk Try.prog [] from trivial) follows) noOddP fun x _ h => ⟨ann86, 60, K0, (ev86 x).trans h⟩
/-- pontage/pontageref1.short -/
noncomputable def pontageref1_shortC : Con := ⟨_, _, pontageref1_short⟩
noncomputable def env87 : Env := mkEnv Try.prog tys eqs [(88, .con pontageref1_normC)]
def ann87 : Anns := fun p c => match p, c with | [87], 0 => some (.tmpl ⟨[.pl (.sl (.int .i64)), .pl (.int .i64), .dead, .dead, .dead, .dead, .whole 0, .pl (.int .i64), .pl (.int .i64), .dead, .dead, .dead, .dead, .dead, .dead, .dead, .dead, .dead, .dead, .dead, .dead, .dead, .dead, .dead, .dead, .dead, .dead, .dead, .dead, .dead, .dead, .dead, .dead, .dead, .dead, .dead, .dead, .dead, .dead, .dead, .dead], [.row (.int .i64)]⟩) | _, _ => none
theorem ev87 : ∀ x, evalFn env87 ann87 87 ⟨[.pl (.sl (.int .i64)), .pl (.int .i64)], []⟩ ⟨[.pl (.sl (.int .i64)), .pl (.sl (.int .i64))], []⟩ 60 K0 x = pontageref1_short x := by intro x; kernel_rfl
theorem ok87 : ConOk Try.prog 87 pontageref1_shortC := con_of_ev (E := env87) (envOk tysOk eqsOk (show HowsOk Try.prog [(88, .con pontageref1_normC)] from (And.intro ok88 trivial)) follows) noOddP fun x _ h => ⟨ann87, 60, K0, (ev87 x).trans h⟩
/-- pontage/pontageref1.Div -/
noncomputable def pontageref1_DivC : Con := ⟨_, _, pontageref1_Div⟩
noncomputable def env56 : Env := mkEnv Try.prog tys eqs [(75, .fresh pontageref1_SubC), (86, .con pontageref1_CmpC), (87, .con pontageref1_shortC), (88, .inl)]
def ann56 : Anns := fun p c => match p, c with | [56], 0 => some (.tmpl ⟨[.pl (.sl (.int .i64)), .pl (.sl (.int .i64)), .dead, .dead, .dead, .dead, .whole 0, .whole 1, .pl (.int .i64), .dead, .dead, .dead, .dead, .dead, .dead, .dead, .dead, .dead, .dead, .dead, .dead, .dead, .dead, .dead, .dead, .dead, .dead, .dead, .dead, .dead, .dead, .dead, .dead, .dead, .dead, .dead, .dead, .dead, .dead, .dead, .dead, .dead, .dead, .dead, .dead, .dead, .dead, .dead, .dead, .dead, .dead, .dead, .dead, .dead, .dead, .dead, .dead, .dead, .dead, .dead, .dead, .dead, .dead, .dead, .dead, .dead, .dead, .dead, .dead, .dead, .dead, .dead, .dead, .dead, .dead, .dead, .dead, .dead, .dead, .dead, .dead, .dead, .dead, .dead, .dead, .dead, .dead, .dead, .dead, .dead, .dead, .dead, .dead, .dead, .dead, .dead, .dead, .dead, .dead, .dead, .dead, .dead, .dead, .dead, .dead, .dead, .dead, .dead, .dead, .dead, .dead, .dead, .dead, .dead], [.row (.int .i64), .row (.int .i64)]⟩) | [56], 2 => some (.tmpl ⟨[.pl (.sl (.int .i64)), .pl (.sl (.int .i64)), .dead, .dead, .dead, .dead, .whole 0, .whole 1, .pl (.int .i64), .pl (.int .i64), .dead, .dead, .dead, .dead, .dead, .dead, .dead, .dead, .dead, .dead, .dead, .dead, .dead, .dead, .dead, .dead, .dead, .dead, .dead, .dead, .dead, .dead, .dead, .dead, .dead, .dead, .dead, .dead, .dead, .dead, .dead, .dead, .dead, .dead, .dead, .dead, .dead, .dead, .dead, .dead, .dead, .dead, .dead, .dead, .dead, .dead, .dead, .dead, .dead, .dead, .dead, .dead, .dead, .dead, .dead, .dead, .dead, .dead, .dead, .dead, .dead, .dead, .dead, .dead, .dead, .dead, .dead, .dead, .dead, .dead, .dead, .dead, .dead, .dead, .dead, .dead, .dead, .dead, .dead, .dead, .dead, .dead, .dead, .dead, .dead, .dead, .dead, .dead, .dead, .dead, .dead, .dead, .dead, .dead, .dead, .dead, .dead, .dead, .dead, .dead, .dead, .dead, .dead, .dead], [.row (.int .i64), .row (.int .i64)]⟩) | [56], 4 => some (.tmpl ⟨[.pl (.sl (.int .i64)), .pl (.sl (.int .i64)), .dead, .dead, .dead, .dead, .whole 0, .whole 1, .pl (.int .i64), .pl (.int .i64), .pl (.int .i64), .pl (.int .i64), .dead, .dead, .dead, .dead, .dead, .dead, .dead, .dead, .dead, .dead, .dead, .dead, .dead, .dead, .dead, .dead, .dead, .dead, .dead, .dead, .dead, .dead, .dead, .dead, .dead, .dead, .dead, .dead, .dead, .dead, .dead, .dead, .dead, .dead, .dead, .dead, .dead, .dead, .dead, .dead, .dead, .dead, .dead, .dead, .dead, .dead, .dead, .dead, .dead, .dead, .dead, .dead, .dead, .dead, .dead, .dead, .dead, .dead, .dead, .dead, .dead, .dead, .dead, .dead, .dead, .dead, .dead, .dead, .dead, .dead, .dead, .dead, .dead, .dead, .dead, .dead, .dead, .dead, .dead, .dead, .dead, .dead, .dead, .dead, .dead, .dead, .dead, .dead, .dead, .dead, .dead, .dead, .dead, .dead, .dead, .dead, .dead, .dead, .dead, .dead, .dead, .dead], [.row (.int .i64), .row (.int .i64)]⟩) | [56], 6 => some (.tmpl ⟨[.pl (.sl (.int .i64)), .pl (.sl (.int .i64)), .dead, .dead, .dead, .dead, .whole 0, .whole 1, .pl (.int .i64), .pl (.int .i64), .dead, .dead, .pl (.sl (.int .i64)), .pl (.int .i64), .dead, .dead, .dead, .dead, .dead, .dead, .dead, .dead, .dead, .dead, .dead, .dead, .dead, .dead, .dead, .dead, .dead, .dead, .dead, .dead, .dead, .dead, .dead, .dead, .dead, .dead, .dead, .dead, .dead, .dead, .dead, .dead, .dead, .dead, .dead, .dead, .dead, .dead, .dead, .dead, .dead, .dead, .dead, .dead, .dead, .dead, .dead, .dead, .dead, .dead, .dead, .dead, .dead, .dead, .dead, .dead, .dead, .dead, .dead, .dead, .dead, .dead, .dead, .dead, .dead, .dead, .dead, .dead, .dead, .dead, .dead, .dead, .dead, .dead, .dead, .dead, .dead, .dead, .dead, .dead, .dead, .dead, .dead, .dead, .dead, .dead, .dead, .dead, .dead, .dead, .dead, .dead, .dead, .dead, .dead, .dead, .dead, .dead, .dead, .dead], [.row (.int .i64), .row (.int .i64)]⟩) | [88, 18, 1, 56], 0 => some (.tmpl ⟨[.whole 0, .dead, .dead, .pl (.int .i64), .dead, .dead, .dead, .dead, .dead, .dead, .dead, .dead, .dead, .dead, .dead, .dead, .dead, .dead, .dead, .dead, .dead, .pl (.sl (.int .i64)), .pl (.sl (.int .i64)), .dead, .dead, .dead, .dead, .whole 1, .whole 0, .pl (.int .i64), .pl (.int .i64), .dead, .dead, .dead, .dead, .dead, .dead, .dead, .dead, .dead, .dead, .dead, .dead, .dead, .dead, .dead, .dead, .dead, .dead, .dead, .dead, .dead, .dead, .dead, .dead, .dead, .dead, .dead, .dead, .dead, .dead, .dead, .dead, .dead, .dead, .dead, .dead, .dead, .dead, .dead, .dead, .dead, .dead, .dead, .dead, .dead, .dead, .dead, .dead, .dead, .dead, .dead, .dead, .dead, .dead, .dead, .dead, .dead, .dead, .dead, .dead, .dead, .dead, .dead, .dead, .dead, .dead, .dead, .dead, .dead, .dead, .dead, .dead, .dead, .dead, .dead, .dead, .dead, .dead, .dead, .dead, .dead, .dead, .dead, .dead, .dead, .dead, .dead, .dead, .dead, .dead, .dead, .dead, .dead, .dead, .dead, .dead, .dead, .dead, .dead, .dead, .dead, .dead, .dead, .dead], [.row (.int .i64), .row (.int .i64)]⟩) | [88, 19, 1, 56], 0 => some (.tmpl ⟨[.whole 0, .dead, .dead, .pl (.int .i64), .dead, .dead, .dead, .dead, .dead, .dead, .dead, .dead, .dead, .dead, .dead, .dead, .dead, .dead, .dead, .dead, .dead, .pl (.sl (.int .i64)), .pl (.sl (.int .i64)), .dead, .dead, .dead, .dead, .whole 1, .whole 0, .pl (.int .i64), .pl (.int .i64), .dead, .dead, .dead, .dead, .dead, .dead, .dead, .dead, .dead, .dead, .dead, .dead, .dead, .dead, .dead, .dead, .dead, .dead, .dead, .dead, .dead, .dead, .dead, .dead, .dead, .dead, .dead, .dead, .dead, .dead, .dead, .dead, .dead, .dead, .dead, .dead, .dead, .dead, .dead, .dead, .dead, .dead, .dead, .dead, .dead, .dead, .dead, .dead, .dead, .dead, .dead, .dead, .dead, .dead, .dead, .dead, .dead, .dead, .dead, .dead, .dead, .dead, .dead, .dead, .dead, .dead, .dead, .dead, .dead, .dead, .dead, .dead, .dead, .dead, .dead, .dead, .dead, .dead, .dead, .dead, .dead, .dead, .dead, .dead, .dead, .dead, .dead, .dead, .dead, .dead, .dead, .dead, .dead, .dead, .dead, .dead, .dead, .dead, .dead, .dead, .dead, .dead, .dead, .dead], [.row (.int .i64), .row (.int .i64)]⟩) | [88, 27, 1, 56], 0 => some (.tmpl ⟨[.whole 0, .dead, .dead, .pl (.int .i64), .dead, .dead, .dead, .dead, .dead, .dead, .dead, .dead, .dead, .dead, .dead, .dead, .dead, .dead, .dead, .dead, .dead, .dead, .dead, .dead, .dead, .dead, .dead, .dead, .whole 1, .dead, .dead, .dead, .dead, .dead, .dead, .dead, .dead, .dead, .dead, .dead, .dead, .dead, .dead, .dead, .dead, .dead, .dead, .dead, .dead, .dead, .dead, .dead, .dead, .dead, .dead, .dead, .dead, .dead, .dead, .dead, .dead, .dead, .dead, .dead, .dead, .dead, .dead, .dead, .dead, .dead, .dead, .dead, .dead, .dead, .dead, .dead, .dead, .dead, .dead, .dead, .dead, .dead, .dead, .dead, .dead, .dead, .dead, .dead, .dead, .dead, .dead, .dead, .dead, .dead, .dead, .dead, .dead, .dead, .dead, .dead, .dead, .dead, .dead, .dead, .dead, .dead, .dead, .dead, .dead, .dead, .dead, .dead, .dead, .dead, .dead, .dead, .dead, .dead, .dead, .dead, .dead, .dead, .dead, .dead, .dead, .dead, .dead, .dead, .dead, .dead, .dead, .dead, .dead, .dead, .dead], [.row (.int .i64), .row (.int .i64)]⟩) | [88, 27, 3, 56], 0 => some (.tmpl ⟨[.whole 0, .dead, .dead, .pl (.int .i64), .dead, .dead, .dead, .dead, .dead, .dead, .dead, .dead, .dead, .dead, .dead, .dead, .dead, .dead, .dead, .dead, .dead, .dead, .dead, .dead, .dead, .dead, .dead, .dead, .dead, .dead, .dead, .dead, .dead, .dead, .dead, .dead, .dead, .dead, .dead, .dead, .dead, .dead, .dead, .dead, .dead, .dead, .dead, .dead, .dead, .dead, .dead, .dead, .dead, .dead, .dead, .dead, .dead, .dead, .dead, .dead, .dead, .dead, .dead, .dead, .dead, .dead, .dead, .dead, .dead, .dead, .dead, .dead, .dead, .dead, .dead, .dead, .dead, .dead, .dead, .dead, .dead, .dead, .dead, .dead, .dead, .dead, .dead, .dead, .dead, .dead, .dead, .dead, .dead, .dead, .dead, .dead, .dead, .dead, .dead, .dead, .dead, .dead, .dead, .dead, .dead, .dead, .dead, .dead, .dead, .dead, .dead, .dead, .dead, .dead, .dead, .dead, .dead, .dead, .dead, .dead, .dead, .dead, .dead, .dead, .dead, .dead, .dead, .dead, .dead, .dead, .dead, .dead, .pl (.sl (.int .i64)), .dead, .dead], [.row (.int .i64)]⟩) | _, _ => none
theorem ev56 : ∀ x, evalFn env56 ann56 56 ⟨[.pl (.sl (.int .i64)), .pl (.sl (.int .i64))], []⟩ ⟨[.pl (.sl (.int .i64)), .pl (.sl (.int .i64))], []⟩ 90 K0 x = pontageref1_Div x := by intro x; kernel_rfl
theorem ok56 : ConOk Try.prog 56 pontageref1_DivC := con_of_ev (E := env56) (envOk tysOk eqsOk (show HowsOk Try.prog [(75, .fresh pontageref1_SubC), (86, .con pontageref1_CmpC), (87, .con pontageref1_shortC), (88, .inl)] from (And.intro okf75 (And.intro ok86 (And.intro ok87 trivial)))) follows) noOddP fun x _ h => ⟨ann56, 90, K0, (ev56 x).trans h⟩
/-- pontage/pontageref1.Add -/
noncomputable def pontageref1_AddC : Con := ⟨_, _, pontageref1_Add⟩
noncomputable def env58 : Env := mkEnv Try.prog tys eqs []
def ann58 : Anns := fun p c => match p, c with | [1000000, 58], 7 => some (.join ⟨[.pl (.sl (.int .i64)), .pl (.sl (.int .i64)), .dead, .dead, .dead, .whole 0, .pl (.int .i64), .pl (.int .i64), .dead, .dead, .dead, .dead, .dead, .dead, .dead, .dead, .dead, .dead, .dead, .dead, .dead, .dead, .dead, .dead, .dead, .dead, .dead, .dead, .dead, .dead, .dead, .dead, .dead, .dead, .dead, .dead, .dead, .dead, .dead, .dead, .dead, .dead, .dead, .dead, .dead, .dead, .dead, .dead, .dead, .dead, .dead, .dead], [.row (.int .i64)]⟩) | [1000000, 58], 9 => some (.join ⟨[.pl (.sl (.int .i64)), .pl (.sl (.int .i64)), .dead, .dead, .dead, .whole 0, .pl (.int .i64), .pl (.int .i64), .dead, .dead, .dead, .dead, .dead, .dead, .dead, .dead, .dead, .dead, .dead, .dead, .dead, .dead, .dead, .dead, .dead, .dead, .dead, .dead, .dead, .dead, .dead, .dead, .dead, .dead, .dead, .dead, .dead, .dead, .dead, .dead, .dead, .dead, .dead, .dead, .dead, .dead, .dead, .dead, .dead, .dead, .dead, .dead], [.row (.int .i64)]⟩) | [58], 0 => some (.tmpl ⟨[.pl (.sl (.int .i64)), .pl (.sl (.int .i64)), .dead, .dead, .dead, .whole 0, .pl (.int .i64), .pl (.int .i64), .dead, .dead, .dead, .dead, .dead, .dead, .dead, .dead, .dead, .dead, .dead, .dead, .dead, .dead, .dead, .dead, .dead, .dead, .dead, .dead, .dead, .dead, .dead, .dead, .dead, .dead, .dead, .dead, .dead, .dead, .dead, .dead, .dead, .dead, .dead, .dead, .dead, .dead, .dead, .dead, .dead, .dead, .dead, .dead], [.row (.int .i64)]⟩) | _, _ => none
theorem ev58 : ∀ x, evalFn env58 ann58 58 ⟨[.pl (.sl (.int .i64)), .pl (.sl (.int .i64))], []⟩ ⟨[.pl (.sl (.int .i64))], []⟩ 60 K0 x = pontageref1_Add x := by intro x; kernel_rfl
theorem ok58 : ConOk Try.prog 58 pontageref1_AddC := con_of_ev (E := env58) (envOk tysOk eqsOk (show HowsOk Try.prog [] from trivial) follows) noOddP fun x _ h => ⟨ann58, 60, K0, (ev58 x).trans h⟩
/-- pontage/pontageref3.sign -/
noncomputable def pontageref3_signC : Con := ⟨_, _, pontageref3_sign⟩
noncomputable def env62 : Env := mkEnv Try.prog tys eqs []
def ann62 : Anns := fun _ _ => none
theorem ev62 : ∀ x, evalFn env62 ann62 62 ⟨[.pl .bool, .pl (.sl (.int .i64))], []⟩ ⟨[.pl (.cons .bool (.cons (.sl (.int .i64)) .nil))], []⟩ 60 K0 x = pontageref3_sign x := by intro x; kernel_rfl
theorem ok62 : ConOk Try.prog 62 pontageref3_signC := con_of_ev (E := env62) (envOk tysOk eqsOk (show HowsOk Try.prog [] from trivial) follows) noOddP fun x _ h => ⟨ann62, 60, K0, (ev62 x).trans h⟩
/-- pontage/pontageref3.DivFloor -/
noncomputable def pontageref3_DivFloorC : Con := ⟨_, _, pontageref3_DivFloor⟩
noncomputable def env49 : Env := mkEnv Try.prog tys eqs [(52, .con pontageref1_FromUint64C), (56, .con pontageref1_DivC), (58, .con pontageref1_AddC), (62, .con pontageref3_signC)]
def ann49 : Anns := fun p c => match p, c with | [1000000, 49], 4 => some (.join ⟨[.dead, .dead, .ptr 0 [], .dead, .ptr 1 [], .pl (.sl (.int .i64)), .dead, .dead, .dead, .dead, .dead, .dead, .dead, .dead, .dead, .dead, .dead, .dead, .dead, .dead, .pl .bool, .dead, .dead, .dead, .dead, .dead, .dead, .dead], [.box (.cons .bool (.cons (.sl (.int .i64)) .nil)) (.pl (.cons .bool (.cons (.sl (.int .i64)) .nil))), .box (.cons .bool (.cons (.sl (.int .i64)) .nil)) (.pl (.cons .bool (.cons (.sl (.int .i64)) .nil)))]⟩) | _, _ => none
theorem ev49 : ∀ x, evalFn env49 ann49 49 ⟨[.pl (.cons .bool (.cons (.sl (.int .i64)) .nil)), .pl (.sl (.int .i64))], []⟩ ⟨[.pl (.cons .bool (.cons (.sl (.int .i64)) .nil))], []⟩ 60 K0 x = pontageref3_DivFloor x := by intro x; kernel_rfl
theorem ok49 : ConOk Try.prog 49 pontageref3_DivFloorC := con_of_ev (E := env49) (envOk tysOk eqsOk (show HowsOk Try.prog [(52, .con pontageref1_FromUint64C), (56, .con pontageref1_DivC), (58, .con pontageref1_AddC), (62, .con pontageref3_signC)] from (And.intro ok52 (And.intro ok56 (And.intro ok58 (And.intro ok62 trivial))))) follows) noOddP fun x _ h => ⟨ann49, 60, K0, (ev49 x).trans h⟩
/-- pontage/pontageref3.Negate -/
noncomputable def pontageref3_NegateC : Con := ⟨_, _, pontageref3_Negate⟩
noncomputable def env50 : Env := mkEnv Try.prog tys eqs [(62, .con pontageref3_signC)]
def ann50 : Anns := fun _ _ => none
theorem ev50 : ∀ x, evalFn env50 ann50 50 ⟨[.pl (.cons .bool (.cons (.sl (.int .i64)) .nil))], []⟩ ⟨[.pl (.cons .bool (.cons (.sl (.int .i64)) .nil))], []⟩ 60 K0 x = pontageref3_Negate x := by intro x; kernel_rfl
theorem ok50 : ConOk Try.prog 50 pontageref3_NegateC := con_of_ev (E := env50) (envOk tysOk eqsOk (show HowsOk Try.prog [(62, .con pontageref3_signC)] from (And.intro ok62 trivial)) follows) noOddP fun x _ h => ⟨ann50, 60, K0, (ev50 x).trans h⟩
/-- pontage/pontageref3.FromInt256 -/
noncomputable def pontageref3_FromInt256C : Con := ⟨_, _, pontageref3_FromInt256⟩
noncomputable def env51 : Env := mkEnv Try.prog tys eqs [(62, .con pontageref3_signC), (63, .con pontageref1_FromUint256C)]
def ann51 : Anns := fun _ _ => none
theorem ev51 : ∀ x, evalFn env51 ann51 51 ⟨[.pl (.cons .bool (.cons (.arr 4 (.int .u64)) .nil))], []⟩ ⟨[.pl (.cons .bool (.cons (.sl (.int .i64)) .nil))], []⟩ 60 K0 x = pontageref3_FromInt256 x := by intro x; kernel_rfl
theorem ok51 : ConOk Try.prog 51 pontageref3_FromInt256C := con_of_ev (E := env51) (envOk tysOk eqsOk (show HowsOk Try.prog [(62, .con pontageref3_signC), (63, .con pontageref1_FromUint256C)] from (And.intro ok62 (And.intro ok63 trivial))) follows) noOddP fun x _ h => ⟨ann51, 60, K0, (ev51 x).trans h⟩
/-- pontage/pontageref3.Add -/
noncomputable def pontageref3_AddC : Con := ⟨_, _, pontageref3_Add⟩
noncomputable def env53 : Env := mkEnv Try.prog tys eqs [(58, .con pontageref1_AddC), (62, .con pontageref3_signC), (75, .fresh pontageref1_SubC), (86, .con pontageref1_CmpC)]
def ann53 : Anns := fun _ _ => none
theorem ev53 : ∀ x, evalFn env53 ann53 53 ⟨[.pl (.cons .bool (.cons (.sl (.int .i64)) .nil)), .pl (.cons .bool (.cons (.sl (.int .i64)) .nil))], []⟩ ⟨[.pl (.cons .bool (.cons (.sl (.int .i64)) .nil))], []⟩ 60 K0 x = pontageref3_Add x := by intro x; kernel_rfl
theorem ok53 : ConOk Try.prog 53 pontageref3_AddC := con_of_ev (E := env53) (envOk tysOk eqsOk (show HowsOk Try.prog [(58, .con pontageref1_AddC), (62, .con pontageref3_signC), (75, .fresh pontageref1_SubC), (86, .con pontageref1_CmpC)] from (And.intro ok58 (And.intro ok62 (And.intro okf75 (And.intro ok86 trivial))))) follows) noOddP fun x _ h => ⟨ann53, 60, K0, (ev53 x).trans h⟩
/-- pontage/pontageref1.Mul -/
noncomputable def pontageref1_MulC : Con := ⟨_, _, pontageref1_Mul⟩
noncomputable def env73 : Env := mkEnv Try.prog tys eqs [(88, .con pontageref1_normC)]
def ann73 : Anns := fun p c => match p, c with | [73], 0 => some (.tmpl ⟨[.pl (.sl (.int .i64)), .pl (.sl (.int .i64)), .dead, .dead, .dead, .whole 0, .pl (.int .i64), .dead, .dead, .dead, .dead, .dead, .dead, .dead, .dead, .dead, .dead, .dead, .dead, .dead, .dead, .dead, .dead, .dead, .dead, .dead, .dead, .dead, .dead, .dead, .dead, .dead, .dead, .dead, .dead, .dead, .dead, .dead, .dead, .dead, .dead, .dead, .dead, .dead, .dead, .dead, .dead, .dead, .dead, .dead, .dead, .dead, .dead, .dead, .dead, .dead, .dead, .dead, .dead, .dead, .dead, .dead, .dead], [.row (.int .i64)]⟩) | [73], 2 => some (.tmpl ⟨[.pl (.sl (.int .i64)), .pl (.sl (.int .i64)), .dead, .dead, .dead, .whole 0, .pl (.int .i64), .pl (.int .i64), .pl (.int .i64), .dead, .dead, .dead, .dead, .dead, .dead, .dead, .dead, .dead, .dead, .dead, .dead, .dead, .dead, .dead, .dead, .dead, .dead, .dead, .dead, .dead, .dead, .dead, .dead, .dead, .dead, .dead, .dead, .dead, .dead, .dead, .dead, .dead, .dead, .dead, .dead, .dead, .dead, .dead, .dead, .dead, .dead, .dead, .dead, .dead, .dead, .dead, .dead, .dead, .dead, .dead, .dead, .dead, .dead], [.row (.int .i64)]⟩) | _, _ => none
theorem ev73 : ∀ x, evalFn env73 ann73 73 ⟨[.pl (.sl (.int .i64)), .pl (.sl (.int .i64))], []⟩ ⟨[.pl (.sl (.int .i64))], []⟩ 60 K0 x = pontageref1_Mul x := by intro x; kernel_rfl
theorem ok73 : ConOk Try.prog 73 pontageref1_MulC := con_of_ev (E := env73) (envOk tysOk eqsOk (show HowsOk Try.prog [(88, .con pontageref1_normC)] from (And.intro ok88 trivial)) follows) noOddP fun x _ h => ⟨ann73, 60, K0, (ev73 x).trans h⟩
/-- pontage/pontageref3.Mul -/
noncomputable def pontageref3_MulC : Con := ⟨_, _, pontageref3_Mul⟩
noncomputable def env54 : Env := mkEnv Try.prog tys eqs [(62, .con pontageref3_signC), (73, .con pontageref1_MulC)]
def ann54 : Anns := fun _ _ => none
theorem ev54 : ∀ x, evalFn env54 ann54 54 ⟨[.pl (.cons .bool (.cons (.sl (.int .i64)) .nil)), .pl (.cons .bool (.cons (.sl (.int .i64)) .nil))], []⟩ ⟨[.pl (.cons .bool (.cons (.sl (.int .i64)) .nil))], []⟩ 60 K0 x = pontageref3_Mul x := by intro x; kernel_rfl
theorem ok54 : ConOk Try.prog 54 pontageref3_MulC := con_of_ev (E := env54) (envOk tysOk eqsOk (show HowsOk Try.prog [(62, .con pontageref3_signC), (73, .con pontageref1_MulC)] from (And.intro ok62 (And.intro ok73 trivial))) follows) noOddP fun x _ h => ⟨ann54, 60, K0, (ev54 x).trans h⟩
/-- pontage/pontageref1.Fits -/
noncomputable def pontageref1_FitsC : Con := ⟨_, _, pontageref1_Fits⟩
noncomputable def env55 : Env := mkEnv Try.prog tys eqs []
def ann55 : Anns := fun _ _ => none
theorem ev55 : ∀ x, evalFn env55 ann55 55 ⟨[.pl (.sl (.int .i64))], []⟩ ⟨[.pl .bool], []⟩ 60 K0 x = pontageref1_Fits x := by intro x; kernel_rfl
theorem ok55 : ConOk Try.prog 55 pontageref1_FitsC := con_of_ev (E := env55) (envOk tysOk eqsOk (show HowsOk Try.prog [] from trivial) follows) noOddP fun x _ h => ⟨ann55, 60, K0, (ev55 x).trans h⟩
/-- pontage/pontageref1.ToUint256 -/
noncomputable def pontageref1_ToUint256C : Con := ⟨_, _, pontageref1_ToUint256⟩
noncomputable def env76 : Env := mkEnv Try.prog tys eqs []
def ann76 : Anns := fun p c => match p, c with | [1000000, 76], 6 => some (.join ⟨[.pl (.sl (.int .i64)), .dead, .ptr 0 [], .ptr 1 [], .pl (.int .i64), .dead, .dead, .dead, .dead, .dead, .pl (.int .i64), .pl .bool, .dead, .dead, .dead, .dead, .dead, .dead, .dead, .dead, .dead, .dead, .dead, .dead, .dead, .dead, .dead, .dead, .dead, .dead, .dead, .dead, .dead, .dead], [.box (.arr 4 (.int .u64)) (.pl (.arr 4 (.int .u64))), .box (.arr 4 (.int .u64)) (.pl (.arr 4 (.int .u64)))]⟩) | [76], 0 => some (.tmpl ⟨[.pl (.sl (.int .i64)), .dead, .ptr 0 [], .ptr 1 [], .pl (.int .i64), .dead, .dead, .dead, .dead, .dead, .dead, .dead, .dead, .dead, .dead, .dead, .dead, .dead, .dead, .dead, .dead, .dead, .dead, .dead, .dead, .dead, .dead, .dead, .dead, .dead, .dead, .dead, .dead, .dead], [.box (.arr 4 (.int .u64)) (.pl (.arr 4 (.int .u64))), .box (.arr 4 (.int .u64)) (.pl (.arr 4 (.int .u64)))]⟩) | _, _ => none
theorem ev76 : ∀ x, evalFn env76 ann76 76 ⟨[.pl (.sl (.int .i64))], []⟩ ⟨[.pl (.arr 4 (.int .u64))], []⟩ 60 K0 x = pontageref1_ToUint256 x := by intro x; kernel_rfl
theorem ok76 : ConOk Try.prog 76 pontageref1_ToUint256C := con_of_ev (E := env76) (envOk tysOk eqsOk (show HowsOk Try.prog [] from trivial) follows) noOddP fun x _ h => ⟨ann76, 60, K0, (ev76 x).trans h⟩
/-- pontage/pontageref1.Checked -/
noncomputable def pontageref1_CheckedC : Con := ⟨_, _, pontageref1_Checked⟩
noncomputable def env89 : Env := mkEnv Try.prog tys eqs [(55, .con pontageref1_FitsC), (76, .con pontageref1_ToUint256C)]
def ann89 : Anns := fun _ _ => none
theorem ev89 : ∀ x, evalFn env89 ann89 89 ⟨[.pl (.sl (.int .i64))], []⟩ ⟨[.pl (.arr 4 (.int .u64)), .pl (.int .i64)], []⟩ 60 K0 x = pontageref1_Checked x := by intro x; kernel_rfl
theorem ok89 : ConOk Try.prog 89 pontageref1_CheckedC := con_of_ev (E := env89) (envOk tysOk eqsOk (show HowsOk Try.prog [(55, .con pontageref1_FitsC), (76, .con pontageref1_ToUint256C)] from (And.intro ok55 (And.intro ok76 trivial))) follows) noOddP fun x _ h => ⟨ann89, 60, K0, (ev89 x).trans h⟩
/-- pontage/pontageref3.Checked -/
noncomputable def pontageref3_CheckedC : Con := ⟨_, _, pontageref3_Checked⟩
noncomputable def env57 : Env := mkEnv Try.prog tys eqs [(89, .con pontageref1_CheckedC)]
def ann57 : Anns := fun _ _ => none
theorem ev57 : ∀ x, evalFn env57 ann57 57 ⟨[.pl (.cons .bool (.cons (.sl (.int .i64)) .nil))], []⟩ ⟨[.pl (.cons .bool (.cons (.arr 4 (.int .u64)) .nil)), .pl (.int .i64)], []⟩ 60 K0 x = pontageref3_Checked x := by intro x; kernel_rfl
theorem ok57 : ConOk Try.prog 57 pontageref3_CheckedC := con_of_ev (E := env57) (envOk tysOk eqsOk (show HowsOk Try.prog [(89, .con pontageref1_CheckedC)] from (And.intro ok89 trivial)) follows) noOddP fun x _ h => ⟨ann57, 60, K0, (ev57 x).trans h⟩
/-- pontage/pontageref19.Delta -/
noncomputable def pontageref19_DeltaC : Con := ⟨_, _, pontageref19_Delta⟩
noncomputable def env14 : Env := mkEnv Try.prog tys eqs [(47, .con pontageref12_ValidC), (48, .con pontageref3_ValidC), (49, .con pontageref3_DivFloorC), (50, .con pontageref3_NegateC), (51, .con pontageref3_FromInt256C), (52, .con pontageref1_FromUint64C), (53, .con pontageref3_AddC), (54, .con pontageref3_MulC), (55, .con pontageref1_FitsC), (56, .con pontageref1_DivC), (57, .con pontageref3_CheckedC), (58, .con pontageref1_AddC)]
def ann14 : Anns := fun p c => match p, c with | [1000000, 14], 13 => some (.join ⟨[.dead, .dead, .pl (.int .u64), .dead, .dead, .dead, .dead, .ptr 0 [], .ptr 1 [], .dead, .dead, .dead, .dead, .dead, .ptr 2 [], .dead, .dead, .dead, .dead, .dead, .dead, .dead, .dead, .dead, .dead, .dead, .dead, .dead, .dead, .dead, .dead, .dead, .dead, .dead, .dead, .dead, .dead, .dead, .dead, .dead, .dead, .dead, .dead, .dead, .dead, .dead, .dead, .dead, .dead, .dead, .dead, .dead, .dead, .dead, .dead, .dead, .dead, .dead, .dead, .dead, .dead, .dead, .dead, .dead, .dead, .dead, .dead, .dead, .dead, .dead, .dead, .dead, .dead, .dead, .dead, .dead, .dead, .dead, .dead, .dead, .dead, .dead, .dead, .dead, .dead, .dead, .dead, .dead, .dead, .dead, .dead, .dead, .dead, .dead, .dead, .dead], [.box (.cons (.int .u64) (.cons (.int .u64) (.cons (.int .u64) (.cons (.arr 4 (.int .u64)) (.cons (.int .u64) (.cons (.arr 4 (.int .u64)) (.cons (.int .u64) (.cons (.arr 4 (.int .u64)) (.cons (.int .u64) (.cons (.int .u64) (.cons (.int .u64) (.cons (.int .u64) .nil)))))))))))) (.pl (.cons (.int .u64) (.cons (.int .u64) (.cons (.int .u64) (.cons (.arr 4 (.int .u64)) (.cons (.int .u64) (.cons (.arr 4 (.int .u64)) (.cons (.int .u64) (.cons (.arr 4 (.int .u64)) (.cons (.int .u64) (.cons (.int .u64) (.cons (.int .u64) (.cons (.int .u64) .nil))))))))))))), .box (.cons .bool (.cons (.arr 4 (.int .u64)) .nil)) (.pl (.cons .bool (.cons (.arr 4 (.int .u64)) .nil))), .box (.cons .bool (.cons (.sl (.int .i64)) .nil)) (.pl (.cons .bool (.cons (.sl (.int .i64)) .nil)))]⟩) | [1000000, 14], 6 => some (.join ⟨[.dead, .dead, .pl (.int .u64), .dead, .ptr 0 [], .ptr 1 [], .dead, .ptr 2 [], .ptr 3 [], .dead, .dead, .dead, .dead, .dead, .dead, .dead, .dead, .dead, .dead, .dead, .dead, .dead, .dead, .dead, .dead, .dead, .dead, .dead, .dead, .dead, .dead, .dead, .dead, .dead, .dead, .dead, .dead, .dead, .dead, .dead, .dead, .dead, .dead, .dead, .dead, .dead, .dead, .dead, .dead, .dead, .dead, .dead, .dead, .dead, .dead, .dead, .dead, .dead, .dead, .dead, .dead, .dead, .dead, .dead, .dead, .dead, .dead, .dead, .dead, .dead, .dead, .dead, .dead, .dead, .dead, .dead, .dead, .dead, .dead, .dead, .dead, .dead, .dead, .dead, .dead, .dead, .dead, .dead, .dead, .dead, .dead, .dead, .dead, .dead, .dead, .dead], [.box (.cons .bool (.cons (.arr 4 (.int .u64)) .nil)) (.pl (.cons .bool (.cons (.arr 4 (.int .u64)) .nil))), .box (.cons .bool (.cons (.arr 4 (.int .u64)) .nil)) (.pl (.cons .bool (.cons (.arr 4 (.int .u64)) .nil))), .box (.cons (.int .u64) (.cons (.int .u64) (.cons (.int .u64) (.cons (.arr 4 (.int .u64)) (.cons (.int .u64) (.cons (.arr 4 (.int .u64)) (.cons (.int .u64) (.cons (.arr 4 (.int .u64)) (.cons (.int .u64) (.cons (.int .u64) (.cons (.int .u64) (.cons (.int .u64) .nil)))))))))))) (.pl (.cons (.int .u64) (.cons (.int .u64) (.cons (.int .u64) (.cons (.arr 4 (.int .u64)) (.cons (.int .u64) (.cons (.arr 4 (.int .u64)) (.cons (.int .u64) (.cons (.arr 4 (.int .u64)) (.cons (.int .u64) (.cons (.int .u64) (.cons (.int .u64) (.cons (.int .u64) .nil))))))))))))), .box (.cons .bool (.cons (.arr 4 (.int .u64)) .nil)) (.pl (.cons .bool (.cons (.arr 4 (.int .u64)) .nil)))]⟩) | _, _ => none
theorem ev14 : ∀ x, evalFn env14 ann14 14 ⟨[.pl (.cons .bool (.cons (.arr 4 (.int .u64)) .nil)), .pl (.cons .bool (.cons (.arr 4 (.int .u64)) .nil)), .pl (.int .u64), .pl (.cons (.int .u64) (.cons (.int .u64) (.cons (.int .u64) (.cons (.arr 4 (.int .u64)) (.cons (.int .u64) (.cons (.arr 4 (.int .u64)) (.cons (.int .u64) (.cons (.arr 4 (.int .u64)) (.cons (.int .u64) (.cons (.int .u64) (.cons (.int .u64) (.cons (.int .u64) .nil))))))))))))], []⟩ ⟨[.pl (.cons .bool (.cons (.arr 4 (.int .u64)) .nil)), .pl (.int .i64)], []⟩ 60 K0 x = pontageref19_Delta x := by intro x; kernel_rfl
theorem ok14 : ConOk Try.prog 14 pontageref19_DeltaC := con_of_ev (E := env14) (envOk tysOk eqsOk (show HowsOk Try.prog [(47, .con pontageref12_ValidC), (48, .con pontageref3_ValidC), (49, .con pontageref3_DivFloorC), (50, .con pontageref3_NegateC), (51, .con pontageref3_FromInt256C), (52, .con pontageref1_FromUint64C), (53, .con pontageref3_AddC), (54, .con pontageref3_MulC), (55, .con pontageref1_FitsC), (56, .con pontageref1_DivC), (57, .con pontageref3_CheckedC), (58, .con pontageref1_AddC)] from (And.intro ok47 (And.intro ok48 (And.intro ok49 (And.intro ok50 (And.intro ok51 (And.intro ok52 (And.intro ok53 (And.intro ok54 (And.intro ok55 (And.intro ok56 (And.intro ok57 (And.intro ok58 trivial))))))))))))) follows) noOddP fun x _ h => ⟨ann14, 60, K0, (ev14 x).trans h⟩
/-- pontage/int256.FromInt64 -/
noncomputable def int256_FromInt64C : Con := ⟨_, _, int256_FromInt64⟩
noncomputable def env15 : Env := mkEnv Try.prog tys eqs [(45, .con uint256_FromUint64C)]
def ann15 : Anns := fun _ _ => none
theorem ev15 : ∀ x, evalFn env15 ann15 15 ⟨[.pl (.int .i64)], []⟩ ⟨[.pl (.cons .bool (.cons (.arr 4 (.int .u64)) .nil))], []⟩ 60 K0 x = int256_FromInt64 x := by intro x; kernel_rfl
theorem ok15 : ConOk Try.prog 15 int256_FromInt64C := con_of_ev (E := env15) (envOk tysOk eqsOk (show HowsOk Try.prog [(45, .con uint256_FromUint64C)] from (And.intro ok45 trivial)) follows) noOddP fun x _ h => ⟨ann15, 60, K0, (ev15 x).trans h⟩
/-- pontage/int256.AddClamped -/
noncomputable def int256_AddClampedC : Con := ⟨_, _, int256_AddClamped⟩
noncomputable def env23 : Env := mkEnv Try.prog tys eqs [(20, .con int256_ValidC), (35, .con uint256_SaturatingSubC), (61, .con uint256_AddC)]
def ann23 : Anns := fun _ _ => none
theorem ev23 : ∀ x, evalFn env23 ann23 23 ⟨[.pl (.arr 4 (.int .u64)), .pl (.cons .bool (.cons (.arr 4 (.int .u64)) .nil))], []⟩ ⟨[.pl (.arr 4 (.int .u64)), .pl (.int .i64)], []⟩ 60 K0 x = int256_AddClamped x := by intro x; kernel_rfl
theorem ok23 : ConOk Try.prog 23 int256_AddClampedC := con_of_ev (E := env23) (envOk tysOk eqsOk (show HowsOk Try.prog [(20, .con int256_ValidC), (35, .con uint256_SaturatingSubC), (61, .con uint256_AddC)] from (And.intro ok20 (And.intro ok35 (And.intro ok61 trivial)))) follows) noOddP fun x _ h => ⟨ann23, 60, K0, (ev23 x).trans h⟩
/-- pontage/l1price.Next -/
noncomputable def l1price_NextC : Con := ⟨_, _, l1price_Next⟩
noncomputable def env18 : Env := mkEnv Try.prog tys eqs [(13, .con l1price_DeltaC), (20, .con int256_ValidC), (23, .con int256_AddClampedC), (44, .con params_ValidC)]
def ann18 : Anns := fun p c => match p, c with | [1000000, 18], 5 => some (.join ⟨[.dead, .dead, .dead, .pl (.int .u64), .dead, .ptr 0 [], .ptr 1 [], .ptr 2 [], .dead, .ptr 3 [], .ptr 4 [], .dead, .dead, .dead, .dead, .dead, .dead, .dead, .dead, .pl .bool, .dead, .dead, .dead, .dead, .dead, .dead, .dead, .dead, .dead, .dead, .dead, .dead, .dead, .dead, .dead, .dead, .dead, .dead, .dead, .dead, .dead, .dead, .dead, .dead, .dead, .dead, .dead, .dead, .dead, .dead], [.box (.arr 4 (.int .u64)) (.pl (.arr 4 (.int .u64))), .box (.cons .bool (.cons (.arr 4 (.int .u64)) .nil)) (.pl (.cons .bool (.cons (.arr 4 (.int .u64)) .nil))), .box (.cons .bool (.cons (.arr 4 (.int .u64)) .nil)) (.pl (.cons .bool (.cons (.arr 4 (.int .u64)) .nil))), .box (.cons (.int .u64) (.cons (.int .u64) (.cons (.int .u64) (.cons (.arr 4 (.int .u64)) (.cons (.int .u64) (.cons (.arr 4 (.int .u64)) (.cons (.int .u64) (.cons (.arr 4 (.int .u64)) (.cons (.int .u64) (.cons (.int .u64) (.cons (.int .u64) (.cons (.int .u64) .nil)))))))))))) (.pl (.cons (.int .u64) (.cons (.int .u64) (.cons (.int .u64) (.cons (.arr 4 (.int .u64)) (.cons (.int .u64) (.cons (.arr 4 (.int .u64)) (.cons (.int .u64) (.cons (.arr 4 (.int .u64)) (.cons (.int .u64) (.cons (.int .u64) (.cons (.int .u64) (.cons (.int .u64) .nil))))))))))))), .box (.arr 4 (.int .u64)) (.pl (.arr 4 (.int .u64)))]⟩) | [1000000, 18], 8 => some (.join ⟨[.dead, .dead, .dead, .pl (.int .u64), .dead, .ptr 0 [], .ptr 1 [], .ptr 2 [], .dead, .ptr 3 [], .ptr 4 [], .dead, .dead, .dead, .dead, .dead, .dead, .dead, .dead, .dead, .dead, .dead, .dead, .dead, .dead, .dead, .dead, .dead, .dead, .dead, .dead, .dead, .dead, .dead, .dead, .dead, .dead, .dead, .dead, .dead, .dead, .dead, .dead, .dead, .dead, .dead, .dead, .dead, .dead, .dead], [.box (.arr 4 (.int .u64)) (.pl (.arr 4 (.int .u64))), .box (.cons .bool (.cons (.arr 4 (.int .u64)) .nil)) (.pl (.cons .bool (.cons (.arr 4 (.int .u64)) .nil))), .box (.cons .bool (.cons (.arr 4 (.int .u64)) .nil)) (.pl (.cons .bool (.cons (.arr 4 (.int .u64)) .nil))), .box (.cons (.int .u64) (.cons (.int .u64) (.cons (.int .u64) (.cons (.arr 4 (.int .u64)) (.cons (.int .u64) (.cons (.arr 4 (.int .u64)) (.cons (.int .u64) (.cons (.arr 4 (.int .u64)) (.cons (.int .u64) (.cons (.int .u64) (.cons (.int .u64) (.cons (.int .u64) .nil)))))))))))) (.pl (.cons (.int .u64) (.cons (.int .u64) (.cons (.int .u64) (.cons (.arr 4 (.int .u64)) (.cons (.int .u64) (.cons (.arr 4 (.int .u64)) (.cons (.int .u64) (.cons (.arr 4 (.int .u64)) (.cons (.int .u64) (.cons (.int .u64) (.cons (.int .u64) (.cons (.int .u64) .nil))))))))))))), .box (.arr 4 (.int .u64)) (.pl (.arr 4 (.int .u64)))]⟩) | _, _ => none
theorem ev18 : ∀ x, evalFn env18 ann18 18 ⟨[.pl (.arr 4 (.int .u64)), .pl (.cons .bool (.cons (.arr 4 (.int .u64)) .nil)), .pl (.cons .bool (.cons (.arr 4 (.int .u64)) .nil)), .pl (.int .u64), .pl (.cons (.int .u64) (.cons (.int .u64) (.cons (.int .u64) (.cons (.arr 4 (.int .u64)) (.cons (.int .u64) (.cons (.arr 4 (.int .u64)) (.cons (.int .u64) (.cons (.arr 4 (.int .u64)) (.cons (.int .u64) (.cons (.int .u64) (.cons (.int .u64) (.cons (.int .u64) .nil))))))))))))], []⟩ ⟨[.pl (.arr 4 (.int .u64)), .pl (.int .i64)], []⟩ 60 K0 x = l1price_Next x := by intro x; kernel_rfl
theorem ok18 : ConOk Try.prog 18 l1price_NextC := con_of_ev (E := env18) (envOk tysOk eqsOk (show HowsOk Try.prog [(13, .con l1price_DeltaC), (20, .con int256_ValidC), (23, .con int256_AddClampedC), (44, .con params_ValidC)] from (And.intro ok13 (And.intro ok20 (And.intro ok23 (And.intro ok44 trivial))))) follows) noOddP fun x _ h => ⟨ann18, 60, K0, (ev18 x).trans h⟩
/-- pontage/pontagelaw19.awake -/
noncomputable def pontagelaw19_awakeC : Con := ⟨_, _, pontagelaw19_awake⟩
noncomputable def env16 : Env := mkEnv Try.prog tys eqs [(13, .con l1price_DeltaC), (15, .con int256_FromInt64C), (18, .con l1price_NextC), (43, .con params_GenesisC)]
def ann16 : Anns := fun _ _ => none
theorem ev16 : ∀ x, evalFn env16 ann16 16 ⟨[], []⟩ ⟨[.pl .bool], []⟩ 60 K0 x = pontagelaw19_awake x := by intro x; kernel_rfl
theorem ok16 : ConOk Try.prog 16 pontagelaw19_awakeC := con_of_ev (E := env16) (envOk tysOk eqsOk (show HowsOk Try.prog [(13, .con l1price_DeltaC), (15, .con int256_FromInt64C), (18, .con l1price_NextC), (43, .con params_GenesisC)] from (And.intro ok13 (And.intro ok15 (And.intro ok18 (And.intro ok43 trivial))))) follows) noOddP fun x _ h => ⟨ann16, 60, K0, (ev16 x).trans h⟩
/-- pontage/pontagelaw19.L1PriceDelta -/
noncomputable def pontagelaw19_L1PriceDeltaC : Con := ⟨_, _, pontagelaw19_L1PriceDelta⟩
noncomputable def env3 : Env := mkEnv Try.prog tys eqs [(12, .con pontagelaw14_ValidParamsC), (13, .con l1price_DeltaC), (14, .con pontageref19_DeltaC), (15, .con int256_FromInt64C), (16, .con pontagelaw19_awakeC)]
def ann3 : Anns := fun p c => match p, c with | [3], 0 => some (.tmpl ⟨[.dead, .dead, .pl (.int .u64), .dead, .dead, .pl (.int .i64), .pl (.int .i64), .ptr 0 [], .ptr 1 [], .dead, .dead, .dead, .dead, .dead, .dead, .dead, .dead, .dead, .dead, .dead, .dead, .dead, .dead, .dead, .dead, .dead, .dead, .dead, .dead, .dead, .pl (.arr 2 (.cons (.int .u64) (.cons (.int .u64) (.cons (.int .u64) (.cons (.arr 4 (.int .u64)) (.cons (.int .u64) (.cons (.arr 4 (.int .u64)) (.cons (.int .u64) (.cons (.arr 4 (.int .u64)) (.cons (.int .u64) (.cons (.int .u64) (.cons (.int .u64) (.cons (.int .u64) .nil))))))))))))), .pl (.int .i64), .dead, .dead, .dead, .dead, .dead, .dead, .dead, .dead, .dead, .dead, .dead, .dead, .dead, .dead, .dead, .dead, .dead, .dead, .dead, .dead, .dead, .dead, .dead, .dead, .dead, .dead, .dead, .dead, .dead, .dead, .dead, .dead, .dead, .dead, .dead, .dead, .dead, .dead, .dead, .dead, .dead, .dead, .dead, .dead, .dead, .dead, .dead, .dead, .dead, .dead, .dead, .dead, .dead, .dead, .dead, .dead, .dead, .dead, .dead, .dead, .dead, .dead, .dead, .dead, .dead, .dead], [.box (.cons .bool (.cons (.arr 4 (.int .u64)) .nil)) (.pl (.cons .bool (.cons (.arr 4 (.int .u64)) .nil))), .box (.cons .bool (.cons (.arr 4 (.int .u64)) .nil)) (.pl (.cons .bool (.cons (.arr 4 (.int .u64)) .nil)))]⟩) | [3], 2 => some (.tmpl ⟨[.dead, .dead, .pl (.int .u64), .dead, .dead, .pl (.int .i64), .pl (.int .i64), .ptr 0 [], .ptr 1 [], .dead, .dead, .dead, .dead, .dead, .dead, .dead, .ptr 2 [], .dead, .dead, .dead, .dead, .dead, .dead, .dead, .dead, .dead, .dead, .dead, .dead, .dead, .pl (.arr 2 (.cons (.int .u64) (.cons (.int .u64) (.cons (.int .u64) (.cons (.arr 4 (.int .u64)) (.cons (.int .u64) (.cons (.arr 4 (.int .u64)) (.cons (.int .u64) (.cons (.arr 4 (.int .u64)) (.cons (.int .u64) (.cons (.int .u64) (.cons (.int .u64) (.cons (.int .u64) .nil))))))))))))), .pl (.int .i64), .dead, .dead, .dead, .dead, .dead, .pl (.arr 2 (.int .u64)), .pl (.int .i64), .dead, .dead, .dead, .dead, .dead, .dead, .dead, .dead, .dead, .dead, .dead, .dead, .dead, .dead, .dead, .dead, .dead, .dead, .dead, .dead, .dead, .dead, .dead, .dead, .dead, .dead, .dead, .dead, .dead, .dead, .dead, .dead, .dead, .dead, .dead, .dead, .dead, .dead, .dead, .dead, .dead, .dead, .dead, .dead, .dead, .dead, .dead, .dead, .dead, .dead, .dead, .dead, .dead, .dead, .dead, .dead, .dead, .dead, .dead], [.box (.cons .bool (.cons (.arr 4 (.int .u64)) .nil)) (.pl (.cons .bool (.cons (.arr 4 (.int .u64)) .nil))), .box (.cons .bool (.cons (.arr 4 (.int .u64)) .nil)) (.pl (.cons .bool (.cons (.arr 4 (.int .u64)) .nil))), .box (.cons (.int .u64) (.cons (.int .u64) (.cons (.int .u64) (.cons (.arr 4 (.int .u64)) (.cons (.int .u64) (.cons (.arr 4 (.int .u64)) (.cons (.int .u64) (.cons (.arr 4 (.int .u64)) (.cons (.int .u64) (.cons (.int .u64) (.cons (.int .u64) (.cons (.int .u64) .nil)))))))))))) (.pl (.cons (.int .u64) (.cons (.int .u64) (.cons (.int .u64) (.cons (.arr 4 (.int .u64)) (.cons (.int .u64) (.cons (.arr 4 (.int .u64)) (.cons (.int .u64) (.cons (.arr 4 (.int .u64)) (.cons (.int .u64) (.cons (.int .u64) (.cons (.int .u64) (.cons (.int .u64) .nil)))))))))))))]⟩) | _, _ => none
theorem ev3 : ∀ x, evalFn env3 ann3 3 ⟨[.pl (.cons .bool (.cons (.arr 4 (.int .u64)) .nil)), .pl (.cons .bool (.cons (.arr 4 (.int .u64)) .nil)), .pl (.int .u64), .pl (.cons (.int .u64) (.cons (.int .u64) (.cons (.int .u64) (.cons (.arr 4 (.int .u64)) (.cons (.int .u64) (.cons (.arr 4 (.int .u64)) (.cons (.int .u64) (.cons (.arr 4 (.int .u64)) (.cons (.int .u64) (.cons (.int .u64) (.cons (.int .u64) (.cons (.int .u64) .nil)))))))))))), .pl (.arr 8 (.int .u64)), .pl (.int .i64), .pl (.int .i64)], []⟩ ⟨[.pl .bool], []⟩ 60 K0 x = pontagelaw19_L1PriceDelta x := by intro x; kernel_rfl
theorem ok3 : ConOk Try.prog 3 pontagelaw19_L1PriceDeltaC := con_of_ev (E := env3) (envOk tysOk eqsOk (show HowsOk Try.prog [(12, .con pontagelaw14_ValidParamsC), (13, .con l1price_DeltaC), (14, .con pontageref19_DeltaC), (15, .con int256_FromInt64C), (16, .con pontagelaw19_awakeC)] from (And.intro ok12 (And.intro ok13 (And.intro ok14 (And.intro ok15 (And.intro ok16 trivial)))))) follows) noOddP fun x _ h => ⟨ann3, 60, K0, (ev3 x).trans h⟩
/-- pontage/pontageref3.AddClamped -/
noncomputable def pontageref3_AddClampedC : Con := ⟨_, _, pontageref3_AddClamped⟩
noncomputable def env59 : Env := mkEnv Try.prog tys eqs [(48, .con pontageref3_ValidC), (51, .con pontageref3_FromInt256C), (53, .con pontageref3_AddC), (62, .con pontageref3_signC), (63, .con pontageref1_FromUint256C), (89, .con pontageref1_CheckedC)]
def ann59 : Anns := fun _ _ => none
theorem ev59 : ∀ x, evalFn env59 ann59 59 ⟨[.pl (.arr 4 (.int .u64)), .pl (.cons .bool (.cons (.arr 4 (.int .u64)) .nil))], []⟩ ⟨[.pl (.arr 4 (.int .u64)), .pl (.int .i64)], []⟩ 60 K0 x = pontageref3_AddClamped x := by intro x; kernel_rfl
theorem ok59 : ConOk Try.prog 59 pontageref3_AddClampedC := con_of_ev (E := env59) (envOk tysOk eqsOk (show HowsOk Try.prog [(48, .con pontageref3_ValidC), (51, .con pontageref3_FromInt256C), (53, .con pontageref3_AddC), (62, .con pontageref3_signC), (63, .con pontageref1_FromUint256C), (89, .con pontageref1_CheckedC)] from (And.intro ok48 (And.intro ok51 (And.intro ok53 (And.intro ok62 (And.intro ok63 (And.intro ok89 trivial))))))) follows) noOddP fun x _ h => ⟨ann59, 60, K0, (ev59 x).trans h⟩
/-- pontage/pontageref19.Next -/
noncomputable def pontageref19_NextC : Con := ⟨_, _, pontageref19_Next⟩
noncomputable def env19 : Env := mkEnv Try.prog tys eqs [(14, .con pontageref19_DeltaC), (47, .con pontageref12_ValidC), (48, .con pontageref3_ValidC), (59, .con pontageref3_AddClampedC)]
def ann19 : Anns := fun p c => match p, c with | [1000000, 19], 6 => some (.join ⟨[.dead, .dead, .dead, .pl (.int .u64), .dead, .ptr 0 [], .ptr 1 [], .ptr 2 [], .dead, .ptr 3 [], .ptr 4 [], .dead, .dead, .dead, .dead, .dead, .dead, .dead, .dead, .dead, .dead, .dead, .dead, .dead, .dead, .dead, .dead, .dead, .dead, .dead, .dead, .dead, .dead, .dead, .dead, .dead, .dead, .dead, .dead, .dead, .dead, .dead, .dead, .dead, .dead, .dead, .dead], [.box (.arr 4 (.int .u64)) (.pl (.arr 4 (.int .u64))), .box (.cons .bool (.cons (.arr 4 (.int .u64)) .nil)) (.pl (.cons .bool (.cons (.arr 4 (.int .u64)) .nil))), .box (.cons .bool (.cons (.arr 4 (.int .u64)) .nil)) (.pl (.cons .bool (.cons (.arr 4 (.int .u64)) .nil))), .box (.cons (.int .u64) (.cons (.int .u64) (.cons (.int .u64) (.cons (.arr 4 (.int .u64)) (.cons (.int .u64) (.cons (.arr 4 (.int .u64)) (.cons (.int .u64) (.cons (.arr 4 (.int .u64)) (.cons (.int .u64) (.cons (.int .u64) (.cons (.int .u64) (.cons (.int .u64) .nil)))))))))))) (.pl (.cons (.int .u64) (.cons (.int .u64) (.cons (.int .u64) (.cons (.arr 4 (.int .u64)) (.cons (.int .u64) (.cons (.arr 4 (.int .u64)) (.cons (.int .u64) (.cons (.arr 4 (.int .u64)) (.cons (.int .u64) (.cons (.int .u64) (.cons (.int .u64) (.cons (.int .u64) .nil))))))))))))), .box (.arr 4 (.int .u64)) (.pl (.arr 4 (.int .u64)))]⟩) | _, _ => none
theorem ev19 : ∀ x, evalFn env19 ann19 19 ⟨[.pl (.arr 4 (.int .u64)), .pl (.cons .bool (.cons (.arr 4 (.int .u64)) .nil)), .pl (.cons .bool (.cons (.arr 4 (.int .u64)) .nil)), .pl (.int .u64), .pl (.cons (.int .u64) (.cons (.int .u64) (.cons (.int .u64) (.cons (.arr 4 (.int .u64)) (.cons (.int .u64) (.cons (.arr 4 (.int .u64)) (.cons (.int .u64) (.cons (.arr 4 (.int .u64)) (.cons (.int .u64) (.cons (.int .u64) (.cons (.int .u64) (.cons (.int .u64) .nil))))))))))))], []⟩ ⟨[.pl (.arr 4 (.int .u64)), .pl (.int .i64)], []⟩ 60 K0 x = pontageref19_Next x := by intro x; kernel_rfl
theorem ok19 : ConOk Try.prog 19 pontageref19_NextC := con_of_ev (E := env19) (envOk tysOk eqsOk (show HowsOk Try.prog [(14, .con pontageref19_DeltaC), (47, .con pontageref12_ValidC), (48, .con pontageref3_ValidC), (59, .con pontageref3_AddClampedC)] from (And.intro ok14 (And.intro ok47 (And.intro ok48 (And.intro ok59 trivial))))) follows) noOddP fun x _ h => ⟨ann19, 60, K0, (ev19 x).trans h⟩
/-- pontage/pontagelaw19.L1PriceNext -/
noncomputable def pontagelaw19_L1PriceNextC : Con := ⟨_, _, pontagelaw19_L1PriceNext⟩
noncomputable def env4 : Env := mkEnv Try.prog tys eqs [(12, .con pontagelaw14_ValidParamsC), (16, .con pontagelaw19_awakeC), (17, .con int256_NewC), (18, .con l1price_NextC), (19, .con pontageref19_NextC)]
def ann4 : Anns := fun p c => match p, c with | [4], 0 => some (.tmpl ⟨[.dead, .dead, .dead, .pl (.int .u64), .dead, .dead, .pl (.int .u64), .dead, .dead, .dead, .dead, .ptr 0 [], .ptr 1 [], .ptr 2 [], .dead, .dead, .dead, .dead, .dead, .dead, .dead, .dead, .dead, .ptr 3 [], .ptr 4 [], .dead, .dead, .dead, .dead, .dead, .dead, .dead, .dead, .dead, .dead, .dead, .dead, .dead, .dead, .dead, .dead, .dead, .dead, .dead, .dead, .dead, .dead, .dead, .dead, .dead, .dead, .dead, .pl (.arr 2 (.cons (.int .u64) (.cons (.int .u64) (.cons (.int .u64) (.cons (.arr 4 (.int .u64)) (.cons (.int .u64) (.cons (.arr 4 (.int .u64)) (.cons (.int .u64) (.cons (.arr 4 (.int .u64)) (.cons (.int .u64) (.cons (.int .u64) (.cons (.int .u64) (.cons (.int .u64) .nil))))))))))))), .pl (.int .i64), .dead, .dead, .dead, .dead, .dead, .dead, .dead, .dead, .dead, .dead, .dead, .dead, .dead, .dead, .dead, .dead, .dead, .dead, .dead, .dead, .dead, .dead, .dead, .dead, .dead, .dead, .dead, .dead, .dead, .dead, .dead, .dead, .dead, .dead, .dead, .dead, .dead, .dead, .dead, .dead, .dead, .dead, .dead, .dead, .dead, .dead, .dead, .dead, .dead, .dead, .dead, .dead, .dead, .dead, .dead, .dead, .dead, .dead, .dead, .dead, .dead, .dead, .dead, .dead, .dead, .dead, .dead, .dead], [.box (.arr 4 (.int .u64)) (.pl (.arr 4 (.int .u64))), .box (.cons .bool (.cons (.arr 4 (.int .u64)) .nil)) (.pl (.cons .bool (.cons (.arr 4 (.int .u64)) .nil))), .box (.cons .bool (.cons (.arr 4 (.int .u64)) .nil)) (.pl (.cons .bool (.cons (.arr 4 (.int .u64)) .nil))), .box (.cons .bool (.cons (.arr 4 (.int .u64)) .nil)) (.pl (.cons .bool (.cons (.arr 4 (.int .u64)) .nil))), .box (.cons .bool (.cons (.arr 4 (.int .u64)) .nil)) (.pl (.cons .bool (.cons (.arr 4 (.int .u64)) .nil)))]⟩) | [4], 2 => some (.tmpl ⟨[.dead, .dead, .dead, .pl (.int .u64), .dead, .dead, .pl (.int .u64), .dead, .dead, .dead, .dead, .ptr 0 [], .ptr 1 [], .ptr 2 [], .dead, .dead, .dead, .dead, .dead, .dead, .dead, .dead, .dead, .ptr 3 [], .ptr 4 [], .dead, .ptr 5 [], .dead, .dead, .dead, .dead, .dead, .dead, .dead, .dead, .dead, .dead, .dead, .dead, .dead, .dead, .dead, .dead, .dead, .dead, .dead, .dead, .dead, .dead, .dead, .dead, .dead, .pl (.arr 2 (.cons (.int .u64) (.cons (.int .u64) (.cons (.int .u64) (.cons (.arr 4 (.int .u64)) (.cons (.int .u64) (.cons (.arr 4 (.int .u64)) (.cons (.int .u64) (.cons (.arr 4 (.int .u64)) (.cons (.int .u64) (.cons (.int .u64) (.cons (.int .u64) (.cons (.int .u64) .nil))))))))))))), .pl (.int .i64), .dead, .dead, .dead, .dead, .dead, .pl (.arr 2 (.int .u64)), .pl (.int .i64), .dead, .dead, .dead, .dead, .dead, .dead, .dead, .dead, .dead, .dead, .dead, .dead, .dead, .dead, .dead, .dead, .dead, .dead, .dead, .dead, .dead, .dead, .dead, .dead, .dead, .dead, .dead, .dead, .dead, .dead, .dead, .dead, .dead, .dead, .dead, .dead, .dead, .dead, .dead, .dead, .dead, .dead, .dead, .dead, .dead, .dead, .dead, .dead, .dead, .dead, .dead, .dead, .dead, .dead, .dead, .dead, .dead, .dead, .dead, .dead, .dead], [.box (.arr 4 (.int .u64)) (.pl (.arr 4 (.int .u64))), .box (.cons .bool (.cons (.arr 4 (.int .u64)) .nil)) (.pl (.cons .bool (.cons (.arr 4 (.int .u64)) .nil))), .box (.cons .bool (.cons (.arr 4 (.int .u64)) .nil)) (.pl (.cons .bool (.cons (.arr 4 (.int .u64)) .nil))), .box (.cons .bool (.cons (.arr 4 (.int .u64)) .nil)) (.pl (.cons .bool (.cons (.arr 4 (.int .u64)) .nil))), .box (.cons .bool (.cons (.arr 4 (.int .u64)) .nil)) (.pl (.cons .bool (.cons (.arr 4 (.int .u64)) .nil))), .box (.cons (.int .u64) (.cons (.int .u64) (.cons (.int .u64) (.cons (.arr 4 (.int .u64)) (.cons (.int .u64) (.cons (.arr 4 (.int .u64)) (.cons (.int .u64) (.cons (.arr 4 (.int .u64)) (.cons (.int .u64) (.cons (.int .u64) (.cons (.int .u64) (.cons (.int .u64) .nil)))))))))))) (.pl (.cons (.int .u64) (.cons (.int .u64) (.cons (.int .u64) (.cons (.arr 4 (.int .u64)) (.cons (.int .u64) (.cons (.arr 4 (.int .u64)) (.cons (.int .u64) (.cons (.arr 4 (.int .u64)) (.cons (.int .u64) (.cons (.int .u64) (.cons (.int .u64) (.cons (.int .u64) .nil)))))))))))))]⟩) | _, _ => none
theorem ev4 : ∀ x, evalFn env4 ann4 4 ⟨[.pl (.arr 4 (.int .u64)), .pl (.cons .bool (.cons (.arr 4 (.int .u64)) .nil)), .pl (.cons .bool (.cons (.arr 4 (.int .u64)) .nil)), .pl (.int .u64), .pl (.cons (.int .u64) (.cons (.int .u64) (.cons (.int .u64) (.cons (.arr 4 (.int .u64)) (.cons (.int .u64) (.cons (.arr 4 (.int .u64)) (.cons (.int .u64) (.cons (.arr 4 (.int .u64)) (.cons (.int .u64) (.cons (.int .u64) (.cons (.int .u64) (.cons (.int .u64) .nil)))))))))))), .pl (.arr 8 (.int .u64)), .pl (.int .u64), .pl (.int .u64), .pl (.int .u64), .pl .bool, .pl .bool], []⟩ ⟨[.pl .bool], []⟩ 60 K0 x = pontagelaw19_L1PriceNext x := by intro x; kernel_rfl
theorem ok4 : ConOk Try.prog 4 pontagelaw19_L1PriceNextC := con_of_ev (E := env4) (envOk tysOk eqsOk (show HowsOk Try.prog [(12, .con pontagelaw14_ValidParamsC), (16, .con pontagelaw19_awakeC), (17, .con int256_NewC), (18, .con l1price_NextC), (19, .con pontageref19_NextC)] from (And.intro ok12 (And.intro ok16 (And.intro ok17 (And.intro ok18 (And.intro ok19 trivial)))))) follows) noOddP fun x _ h => ⟨ann4, 60, K0, (ev4 x).trans h⟩
/-- pontage/pontagelaw19.L1PriceUnchanged -/
noncomputable def pontagelaw19_L1PriceUnchangedC : Con := ⟨_, _, pontagelaw19_L1PriceUnchanged⟩
noncomputable def env5 : Env := mkEnv Try.prog tys eqs [(12, .con pontagelaw14_ValidParamsC), (16, .con pontagelaw19_awakeC), (18, .con l1price_NextC), (20, .con int256_ValidC)]
def ann5 : Anns := fun p c => match p, c with | [1000000, 5], 4 => some (.join ⟨[.dead, .dead, .dead, .pl (.int .u64), .dead, .ptr 0 [], .ptr 1 [], .ptr 2 [], .dead, .dead, .dead, .ptr 3 [], .dead, .dead, .dead, .dead, .dead, .dead, .dead, .dead, .dead, .dead, .dead, .dead, .dead, .pl .bool, .dead, .dead, .dead, .dead, .dead, .dead, .dead, .dead, .dead, .dead, .dead, .dead, .dead, .dead, .dead, .dead, .dead, .dead, .dead, .dead, .dead, .dead, .dead, .dead, .dead, .dead, .dead, .dead, .dead, .dead, .dead, .dead, .dead, .dead, .dead, .dead, .dead, .dead, .dead], [.box (.arr 4 (.int .u64)) (.pl (.arr 4 (.int .u64))), .box (.cons .bool (.cons (.arr 4 (.int .u64)) .nil)) (.pl (.cons .bool (.cons (.arr 4 (.int .u64)) .nil))), .box (.cons .bool (.cons (.arr 4 (.int .u64)) .nil)) (.pl (.cons .bool (.cons (.arr 4 (.int .u64)) .nil))), .box (.cons (.int .u64) (.cons (.int .u64) (.cons (.int .u64) (.cons (.arr 4 (.int .u64)) (.cons (.int .u64) (.cons (.arr 4 (.int .u64)) (.cons (.int .u64) (.cons (.arr 4 (.int .u64)) (.cons (.int .u64) (.cons (.int .u64) (.cons (.int .u64) (.cons (.int .u64) .nil)))))))))))) (.pl (.cons (.int .u64) (.cons (.int .u64) (.cons (.int .u64) (.cons (.arr 4 (.int .u64)) (.cons (.int .u64) (.cons (.arr 4 (.int .u64)) (.cons (.int .u64) (.cons (.arr 4 (.int .u64)) (.cons (.int .u64) (.cons (.int .u64) (.cons (.int .u64) (.cons (.int .u64) .nil)))))))))))))]⟩) | [1000000, 5], 5 => some (.join ⟨[.dead, .dead, .dead, .pl (.int .u64), .dead, .ptr 0 [], .ptr 1 [], .ptr 2 [], .dead, .dead, .dead, .ptr 3 [], .dead, .dead, .dead, .dead, .dead, .dead, .dead, .dead, .dead, .dead, .dead, .dead, .dead, .dead, .dead, .dead, .dead, .dead, .dead, .dead, .dead, .dead, .dead, .dead, .dead, .dead, .dead, .dead, .dead, .dead, .dead, .dead, .dead, .dead, .dead, .dead, .dead, .dead, .dead, .dead, .dead, .dead, .dead, .dead, .dead, .dead, .dead, .dead, .dead, .dead, .dead, .dead, .dead], [.box (.arr 4 (.int .u64)) (.pl (.arr 4 (.int .u64))), .box (.cons .bool (.cons (.arr 4 (.int .u64)) .nil)) (.pl (.cons .bool (.cons (.arr 4 (.int .u64)) .nil))), .box (.cons .bool (.cons (.arr 4 (.int .u64)) .nil)) (.pl (.cons .bool (.cons (.arr 4 (.int .u64)) .nil))), .box (.cons (.int .u64) (.cons (.int .u64) (.cons (.int .u64) (.cons (.arr 4 (.int .u64)) (.cons (.int .u64) (.cons (.arr 4 (.int .u64)) (.cons (.int .u64) (.cons (.arr 4 (.int .u64)) (.cons (.int .u64) (.cons (.int .u64) (.cons (.int .u64) (.cons (.int .u64) .nil)))))))))))) (.pl (.cons (.int .u64) (.cons (.int .u64) (.cons (.int .u64) (.cons (.arr 4 (.int .u64)) (.cons (.int .u64) (.cons (.arr 4 (.int .u64)) (.cons (.int .u64) (.cons (.arr 4 (.int .u64)) (.cons (.int .u64) (.cons (.int .u64) (.cons (.int .u64) (.cons (.int .u64) .nil)))))))))))))]⟩) | _, _ => none
theorem ev5 : ∀ x, evalFn env5 ann5 5 ⟨[.pl (.arr 4 (.int .u64)), .pl (.cons .bool (.cons (.arr 4 (.int .u64)) .nil)), .pl (.cons .bool (.cons (.arr 4 (.int .u64)) .nil)), .pl (.int .u64), .pl (.arr 8 (.int .u64))], []⟩ ⟨[.pl .bool], []⟩ 60 K0 x = pontagelaw19_L1PriceUnchanged x := by intro x; kernel_rfl
theorem ok5 : ConOk Try.prog 5 pontagelaw19_L1PriceUnchangedC := con_of_ev (E := env5) (envOk tysOk eqsOk (show HowsOk Try.prog [(12, .con pontagelaw14_ValidParamsC), (16, .con pontagelaw19_awakeC), (18, .con l1price_NextC), (20, .con int256_ValidC)] from (And.intro ok12 (And.intro ok16 (And.intro ok18 (And.intro ok20 trivial))))) follows) noOddP fun x _ h => ⟨ann5, 60, K0, (ev5 x).trans h⟩
/-- pontage/pontagelaw19.L1PriceDirection -/
noncomputable def pontagelaw19_L1PriceDirectionC : Con := ⟨_, _, pontagelaw19_L1PriceDirection⟩
noncomputable def env6 : Env := mkEnv Try.prog tys eqs [(12, .con pontagelaw14_ValidParamsC), (16, .con pontagelaw19_awakeC), (17, .con int256_NewC), (18, .con l1price_NextC), (21, .con uint256_CmpC)]
def ann6 : Anns := fun _ _ => none
theorem ev6 : ∀ x, evalFn env6 ann6 6 ⟨[.pl (.int .u64), .pl (.int .u64), .pl (.int .u64), .pl (.arr 8 (.int .u64))], []⟩ ⟨[.pl .bool], []⟩ 60 K0 x = pontagelaw19_L1PriceDirection x := by intro x; kernel_rfl
theorem ok6 : ConOk Try.prog 6 pontagelaw19_L1PriceDirectionC := con_of_ev (E := env6) (envOk tysOk eqsOk (show HowsOk Try.prog [(12, .con pontagelaw14_ValidParamsC), (16, .con pontagelaw19_awakeC), (17, .con int256_NewC), (18, .con l1price_NextC), (21, .con uint256_CmpC)] from (And.intro ok12 (And.intro ok16 (And.intro ok17 (And.intro ok18 (And.intro ok21 trivial)))))) follows) noOddP fun x _ h => ⟨ann6, 60, K0, (ev6 x).trans h⟩
/-- pontage/l1price.Surplus -/
noncomputable def l1price_SurplusC : Con := ⟨_, _, l1price_Surplus⟩
noncomputable def env22 : Env := mkEnv Try.prog tys eqs [(60, .con int256_DiffC)]
def ann22 : Anns := fun _ _ => none
theorem ev22 : ∀ x, evalFn env22 ann22 22 ⟨[.pl (.arr 4 (.int .u64)), .pl (.arr 4 (.int .u64))], []⟩ ⟨[.pl (.cons .bool (.cons (.arr 4 (.int .u64)) .nil))], []⟩ 60 K0 x = l1price_Surplus x := by intro x; kernel_rfl
theorem ok22 : ConOk Try.prog 22 l1price_SurplusC := con_of_ev (E := env22) (envOk tysOk eqsOk (show HowsOk Try.prog [(60, .con int256_DiffC)] from (And.intro ok60 trivial)) follows) noOddP fun x _ h => ⟨ann22, 60, K0, (ev22 x).trans h⟩
/-- pontage/pontageref3.Diff -/
noncomputable def pontageref3_DiffC : Con := ⟨_, _, pontageref3_Diff⟩
noncomputable def env24 : Env := mkEnv Try.prog tys eqs [(53, .con pontageref3_AddC), (57, .con pontageref3_CheckedC), (62, .con pontageref3_signC), (63, .con pontageref1_FromUint256C)]
def ann24 : Anns := fun _ _ => none
theorem ev24 : ∀ x, evalFn env24 ann24 24 ⟨[.pl (.arr 4 (.int .u64)), .pl (.arr 4 (.int .u64))], []⟩ ⟨[.pl (.cons .bool (.cons (.arr 4 (.int .u64)) .nil))], []⟩ 60 K0 x = pontageref3_Diff x := by intro x; kernel_rfl
theorem ok24 : ConOk Try.prog 24 pontageref3_DiffC := con_of_ev (E := env24) (envOk tysOk eqsOk (show HowsOk Try.prog [(53, .con pontageref3_AddC), (57, .con pontageref3_CheckedC), (62, .con pontageref3_signC), (63, .con pontageref1_FromUint256C)] from (And.intro ok53 (And.intro ok57 (And.intro ok62 (And.intro ok63 trivial))))) follows) noOddP fun x _ h => ⟨ann24, 60, K0, (ev24 x).trans h⟩
/-- pontage/pontagelaw19.L1PriceSurplus -/
noncomputable def pontagelaw19_L1PriceSurplusC : Con := ⟨_, _, pontagelaw19_L1PriceSurplus⟩
noncomputable def env7 : Env := mkEnv Try.prog tys eqs [(16, .con pontagelaw19_awakeC), (20, .con int256_ValidC), (21, .con uint256_CmpC), (22, .con l1price_SurplusC), (23, .con int256_AddClampedC), (24, .con pontageref3_DiffC)]
def ann7 : Anns := fun _ _ => none
theorem ev7 : ∀ x, evalFn env7 ann7 7 ⟨[.pl (.arr 4 (.int .u64)), .pl (.arr 4 (.int .u64))], []⟩ ⟨[.pl .bool], []⟩ 60 K0 x = pontagelaw19_L1PriceSurplus x := by intro x; kernel_rfl
theorem ok7 : ConOk Try.prog 7 pontagelaw19_L1PriceSurplusC := con_of_ev (E := env7) (envOk tysOk eqsOk (show HowsOk Try.prog [(16, .con pontagelaw19_awakeC), (20, .con int256_ValidC), (21, .con uint256_CmpC), (22, .con l1price_SurplusC), (23, .con int256_AddClampedC), (24, .con pontageref3_DiffC)] from (And.intro ok16 (And.intro ok20 (And.intro ok21 (And.intro ok22 (And.intro ok23 (And.intro ok24 trivial))))))) follows) noOddP fun x _ h => ⟨ann7, 60, K0, (ev7 x).trans h⟩
/-- pontage/int256.Cmp -/
noncomputable def int256_CmpC : Con := ⟨_, _, int256_Cmp⟩
noncomputable def env28 : Env := mkEnv Try.prog tys eqs [(20, .con int256_ValidC), (21, .con uint256_CmpC)]
def ann28 : Anns := fun p c => match p, c with | [1000000, 28], 3 => some (.join ⟨[.dead, .dead, .ptr 0 [], .ptr 1 [], .dead, .pl .bool, .dead, .dead, .dead, .dead, .dead, .dead, .dead, .dead, .dead, .dead, .dead, .dead, .dead, .dead, .dead, .dead, .dead, .dead, .dead, .dead, .dead, .dead, .dead, .dead, .dead, .dead, .dead, .dead, .dead, .dead, .dead], [.box (.cons .bool (.cons (.arr 4 (.int .u64)) .nil)) (.pl (.cons .bool (.cons (.arr 4 (.int .u64)) .nil))), .box (.cons .bool (.cons (.arr 4 (.int .u64)) .nil)) (.pl (.cons .bool (.cons (.arr 4 (.int .u64)) .nil)))]⟩) | [1000000, 28], 5 => some (.join ⟨[.dead, .dead, .ptr 0 [], .ptr 1 [], .dead, .dead, .dead, .dead, .dead, .dead, .dead, .dead, .dead, .dead, .pl .bool, .dead, .dead, .dead, .dead, .dead, .dead, .dead, .dead, .dead, .dead, .dead, .dead, .dead, .dead, .dead, .dead, .dead, .dead, .dead, .dead, .dead, .dead], [.box (.cons .bool (.cons (.arr 4 (.int .u64)) .nil)) (.pl (.cons .bool (.cons (.arr 4 (.int .u64)) .nil))), .box (.cons .bool (.cons (.arr 4 (.int .u64)) .nil)) (.pl (.cons .bool (.cons (.arr 4 (.int .u64)) .nil)))]⟩) | _, _ => none
theorem ev28 : ∀ x, evalFn env28 ann28 28 ⟨[.pl (.cons .bool (.cons (.arr 4 (.int .u64)) .nil)), .pl (.cons .bool (.cons (.arr 4 (.int .u64)) .nil))], []⟩ ⟨[.pl (.int .i64)], []⟩ 60 K0 x = int256_Cmp x := by intro x; kernel_rfl
theorem ok28 : ConOk Try.prog 28 int256_CmpC := con_of_ev (E := env28) (envOk tysOk eqsOk (show HowsOk Try.prog [(20, .con int256_ValidC), (21, .con uint256_CmpC)] from (And.intro ok20 (And.intro ok21 trivial))) follows) noOddP fun x _ h => ⟨ann28, 60, K0, (ev28 x).trans h⟩
/-- pontage/pontagelaw19.L1priceDamped -/
noncomputable def pontagelaw19_L1priceDampedC : Con := ⟨_, _, pontagelaw19_L1priceDamped⟩
noncomputable def env8 : Env := mkEnv Try.prog tys eqs [(12, .con pontagelaw14_ValidParamsC), (13, .con l1price_DeltaC), (15, .con int256_FromInt64C), (16, .con pontagelaw19_awakeC), (25, .con int256_NegC), (26, .con int256_SubC), (27, .con int256_DivFloorC), (28, .con int256_CmpC)]
def ann8 : Anns := fun p c => match p, c with | [1000000, 8], 13 => some (.join ⟨[.dead, .dead, .dead, .dead, .dead, .dead, .dead, .dead, .dead, .dead, .dead, .dead, .dead, .dead, .dead, .dead, .dead, .dead, .dead, .dead, .dead, .ptr 0 [], .dead, .ptr 1 [], .dead, .dead, .dead, .dead, .dead, .dead, .dead, .dead, .dead, .dead, .dead, .dead, .dead, .dead, .dead, .dead, .dead, .dead, .dead, .dead, .dead, .dead, .dead, .dead, .dead, .dead, .dead, .dead, .dead, .dead, .dead, .dead, .dead, .dead, .dead, .dead, .dead, .dead, .dead, .dead, .dead, .dead, .dead, .dead, .dead, .dead, .dead, .dead, .dead, .dead, .dead, .dead, .dead, .dead, .dead, .dead, .dead, .dead, .dead, .dead, .dead, .dead, .dead, .dead, .dead, .dead, .dead, .dead, .dead, .dead, .dead, .dead, .dead, .dead, .dead, .dead, .dead, .dead, .dead, .dead, .dead, .dead, .dead, .dead, .dead, .dead, .dead, .dead, .dead, .dead, .dead, .dead, .dead, .dead, .dead, .dead, .dead], [.box (.cons .bool (.cons (.arr 4 (.int .u64)) .nil)) (.pl (.cons .bool (.cons (.arr 4 (.int .u64)) .nil))), .box (.cons .bool (.cons (.arr 4 (.int .u64)) .nil)) (.pl (.cons .bool (.cons (.arr 4 (.int .u64)) .nil)))]⟩) | _, _ => none
theorem ev8 : ∀ x, evalFn env8 ann8 8 ⟨[.pl (.int .i64), .pl (.int .i64), .pl (.int .u64), .pl (.arr 8 (.int .u64))], []⟩ ⟨[.pl .bool], []⟩ 60 K0 x = pontagelaw19_L1priceDamped x := by intro x; kernel_rfl
theorem ok8 : ConOk Try.prog 8 pontagelaw19_L1priceDampedC := con_of_ev (E := env8) (envOk tysOk eqsOk (show HowsOk Try.prog [(12, .con pontagelaw14_ValidParamsC), (13, .con l1price_DeltaC), (15, .con int256_FromInt64C), (16, .con pontagelaw19_awakeC), (25, .con int256_NegC), (26, .con int256_SubC), (27, .con int256_DivFloorC), (28, .con int256_CmpC)] from (And.intro ok12 (And.intro ok13 (And.intro ok15 (And.intro ok16 (And.intro ok25 (And.intro ok26 (And.intro ok27 (And.intro ok28 trivial))))))))) follows) noOddP fun x _ h => ⟨ann8, 60, K0, (ev8 x).trans h⟩
/-- pontage/uint256.Min -/
noncomputable def uint256_MinC : Con := ⟨_, _, uint256_Min⟩
noncomputable def env38 : Env := mkEnv Try.prog tys eqs [(21, .con uint256_CmpC)]
def ann38 : Anns := fun p c => match p, c with | [38], 0 => some (.tmpl ⟨[.dead, .dead, .ptr 0 [], .dead, .ptr 1 [], .dead, .dead, .pl (.sl (.arr 4 (.int .u64))), .pl (.int .i64), .pl (.int .i64), .dead, .dead, .dead, .dead, .dead, .dead, .dead, .dead, .dead, .dead], [.box (.arr 4 (.int .u64)) (.pl (.arr 4 (.int .u64))), .box (.arr 4 (.int .u64)) (.pl (.arr 4 (.int .u64)))]⟩) | _, _ => none
theorem ev38 : ∀ x, evalFn env38 ann38 38 ⟨[.pl (.arr 4 (.int .u64)), .pl (.sl (.arr 4 (.int .u64)))], []⟩ ⟨[.pl (.arr 4 (.int .u64))], []⟩ 60 K0 x = uint256_Min x := by intro x; kernel_rfl
theorem ok38 : ConOk Try.prog 38 uint256_MinC := con_of_ev (E := env38) (envOk tysOk eqsOk (show HowsOk Try.prog [(21, .con uint256_CmpC)] from (And.intro ok21 trivial)) follows) noOddP fun x _ h => ⟨ann38, 60, K0, (ev38 x).trans h⟩
/-- pontage/txfee.GasPrice -/
noncomputable def txfee_GasPriceC : Con := ⟨_, _, txfee_GasPrice⟩
noncomputable def env40 : Env := mkEnv Try.prog tys eqs [(38, .con uint256_MinC), (61, .con uint256_AddC), (78, .con uint256_SubC)]
def ann40 : Anns := fun _ _ => none
theorem ev40 : ∀ x, evalFn env40 ann40 40 ⟨[.pl (.cons (.int .u64) (.cons (.int .u64) (.cons (.int .u64) (.cons (.arr 4 (.int .u64)) (.cons (.int .u64) (.cons (.arr 4 (.int .u64)) (.cons (.arr 4 (.int .u64)) (.cons (.int .u64) (.cons (.sl (.int .u8)) .nil))))))))), .pl (.arr 4 (.int .u64))], []⟩ ⟨[.pl (.arr 4 (.int .u64)), .pl (.int .i64)], []⟩ 60 K0 x = txfee_GasPrice x := by intro x; kernel_rfl
theorem ok40 : ConOk Try.prog 40 txfee_GasPriceC := con_of_ev (E := env40) (envOk tysOk eqsOk (show HowsOk Try.prog [(38, .con uint256_MinC), (61, .con uint256_AddC), (78, .con uint256_SubC)] from (And.intro ok38 (And.intro ok61 (And.intro ok78 trivial)))) follows) noOddP fun x _ h => ⟨ann40, 60, K0, (ev40 x).trans h⟩
/-- pontage/pontagelaw23.awake -/
noncomputable def pontagelaw23_awakeC : Con := ⟨_, _, pontagelaw23_awake⟩
noncomputable def env29 : Env := mkEnv Try.prog tys eqs [(40, .con txfee_GasPriceC)]
def ann29 : Anns := fun _ _ => none
theorem ev29 : ∀ x, evalFn env29 ann29 29 ⟨[], []⟩ ⟨[.pl .bool], []⟩ 60 K0 x = pontagelaw23_awake x := by intro x; kernel_rfl
theorem ok29 : ConOk Try.prog 29 pontagelaw23_awakeC := con_of_ev (E := env29) (envOk tysOk eqsOk (show HowsOk Try.prog [(40, .con txfee_GasPriceC)] from (And.intro ok40 trivial)) follows) noOddP fun x _ h => ⟨ann29, 60, K0, (ev29 x).trans h⟩
/-- pontage/pontagelaw0.Mod -/
noncomputable def pontagelaw0_ModC : Con := ⟨_, _, pontagelaw0_Mod⟩
noncomputable def env67 : Env := mkEnv Try.prog tys eqs []
def ann67 : Anns := fun _ _ => none
theorem ev67 : ∀ x, evalFn env67 ann67 67 ⟨[.pl (.int .i64), .pl (.int .i64)], []⟩ ⟨[.pl (.int .i64)], []⟩ 60 K0 x = pontagelaw0_Mod x := by intro x; kernel_rfl
theorem ok67 : ConOk Try.prog 67 pontagelaw0_ModC := con_of_ev (E := env67) (envOk tysOk eqsOk (show HowsOk Try.prog [] from trivial) follows) noOddP fun x _ h => ⟨ann67, 60, K0, (ev67 x).trans h⟩
/-- pontage/pontagelaw0.RepetitiveBytes -/
noncomputable def pontagelaw0_RepetitiveBytesC : Con := ⟨_, _, pontagelaw0_RepetitiveBytes⟩
noncomputable def env66 : Env := mkEnv Try.prog tys eqs [(67, .con pontagelaw0_ModC)]
def ann66 : Anns := fun p c => match p, c with | [1000000, 66], 15 => some (.join ⟨[.pl (.sl (.int .i64)), .dead, .dead, .whole 0, .pl (.int .i64), .pl (.int .i64), .pl (.int .i64), .dead, .dead, .dead, .dead, .dead, .dead, .dead, .dead, .dead, .dead, .dead, .dead, .dead, .dead, .dead, .dead, .dead, .dead, .dead, .dead, .pl (.int .i64), .dead, .dead, .dead, .dead, .dead, .dead, .dead, .dead, .dead, .dead, .dead, .dead, .dead, .dead, .dead, .dead, .dead, .dead, .pl .bool, .dead, .dead, .dead, .dead, .dead, .dead, .dead, .dead, .dead, .dead, .dead, .dead, .dead, .dead, .dead, .dead, .dead, .dead, .dead, .dead, .dead, .dead, .dead, .dead, .dead, .dead, .dead, .dead, .dead, .dead, .dead, .dead, .dead, .dead, .dead, .dead, .dead, .dead, .dead, .dead, .dead, .dead, .dead, .dead, .dead, .dead, .dead, .dead, .dead, .dead], [.row (.int .u8)]⟩) | [1000000, 66], 22 => some (.join ⟨[.pl (.sl (.int .i64)), .dead, .dead, .whole 0, .pl (.int .i64), .pl (.int .i64), .pl (.int .i64), .dead, .dead, .dead, .dead, .dead, .dead, .dead, .dead, .dead, .dead, .dead, .dead, .dead, .dead, .dead, .dead, .dead, .dead, .dead, .dead, .dead, .dead, .dead, .dead, .dead, .dead, .dead, .dead, .dead, .dead, .dead, .dead, .dead, .dead, .dead, .dead, .dead, .dead, .dead, .dead, .dead, .dead, .dead, .dead, .dead, .dead, .dead, .dead, .dead, .dead, .dead, .dead, .dead, .dead, .dead, .pl .bool, .dead, .dead, .dead, .dead, .dead, .dead, .dead, .dead, .dead, .dead, .dead, .dead, .dead, .dead, .dead, .dead, .dead, .dead, .dead, .dead, .dead, .dead, .dead, .dead, .dead, .dead, .dead, .dead, .dead, .dead, .dead, .dead, .dead, .dead], [.row (.int .u8)]⟩) | [1000000, 66], 25 => some (.join ⟨[.pl (.sl (.int .i64)), .dead, .dead, .whole 0, .pl (.int .i64), .dead, .pl (.int .i64), .dead, .pl (.int .i64), .dead, .dead, .dead, .dead, .dead, .dead, .dead, .dead, .dead, .dead, .dead, .dead, .dead, .dead, .dead, .dead, .dead, .dead, .dead, .dead, .dead, .dead, .dead, .dead, .dead, .dead, .dead, .dead, .dead, .dead, .dead, .dead, .dead, .dead, .dead, .dead, .dead, .dead, .dead, .dead, .dead, .dead, .dead, .dead, .dead, .dead, .dead, .dead, .dead, .dead, .dead, .dead, .dead, .dead, .dead, .dead, .dead, .dead, .dead, .dead, .dead, .dead, .dead, .dead, .dead, .dead, .dead, .dead, .dead, .dead, .dead, .dead, .dead, .dead, .dead, .dead, .dead, .dead, .dead, .dead, .dead, .dead, .dead, .dead, .dead, .dead, .dead, .dead], [.row (.int .u8)]⟩) | [1000000, 66], 28 => some (.join ⟨[.pl (.sl (.int .i64)), .dead, .dead, .whole 0, .pl (.int .i64), .dead, .pl (.int .i64), .dead, .pl (.int .i64), .pl (.int .i64), .dead, .dead, .dead, .dead, .dead, .dead, .dead, .dead, .dead, .dead, .dead, .dead, .dead, .dead, .dead, .dead, .dead, .dead, .dead, .dead, .dead, .dead, .dead, .dead, .dead, .dead, .dead, .dead, .dead, .dead, .dead, .dead, .dead, .dead, .dead, .dead, .dead, .dead, .dead, .dead, .dead, .dead, .dead, .dead, .dead, .dead, .dead, .dead, .dead, .dead, .dead, .dead, .dead, .dead, .dead, .dead, .dead, .dead, .dead, .dead, .dead, .dead, .dead, .dead, .dead, .dead, .dead, .dead, .pl (.int .i64), .pl (.int .i64), .pl (.int .i64), .whole 0, .pl (.int .i64), .pl .bool, .dead, .dead, .dead, .dead, .dead, .dead, .dead, .dead, .dead, .dead, .dead, .dead, .dead], [.row (.int .u8)]⟩) | [66], 0 => some (.tmpl ⟨[.pl (.sl (.int .i64)), .dead, .dead, .whole 0, .pl (.int .i64), .dead, .dead, .dead, .dead, .dead, .dead, .dead, .dead, .dead, .dead, .dead, .dead, .dead, .dead, .dead, .dead, .dead, .dead, .dead, .dead, .dead, .dead, .dead, .dead, .dead, .dead, .dead, .dead, .dead, .dead, .dead, .dead, .dead, .dead, .dead, .dead, .dead, .dead, .dead, .dead, .dead, .dead, .dead, .dead, .dead, .dead, .dead, .dead, .dead, .dead, .dead, .dead, .dead, .dead, .dead, .dead, .dead, .dead, .dead, .dead, .dead, .dead, .dead, .dead, .dead, .dead, .dead, .dead, .dead, .dead, .dead, .dead, .dead, .dead, .dead, .dead, .dead, .dead, .dead, .dead, .dead, .dead, .dead, .dead, .dead, .dead, .dead, .dead, .dead, .dead, .dead, .dead], [.row (.int .u8)]⟩) | [66], 3 => some (.tmpl ⟨[.pl (.sl (.int .i64)), .dead, .dead, .whole 0, .pl (.int .i64), .pl (.int .i64), .pl (.int .i64), .dead, .dead, .dead, .pl (.int .i64), .dead, .dead, .dead, .dead, .dead, .dead, .dead, .dead, .dead, .dead, .dead, .dead, .dead, .dead, .dead, .dead, .dead, .dead, .dead, .dead, .dead, .dead, .dead, .dead, .dead, .dead, .dead, .dead, .dead, .dead, .dead, .dead, .dead, .dead, .dead, .dead, .dead, .dead, .dead, .dead, .dead, .dead, .dead, .dead, .dead, .dead, .dead, .dead, .dead, .dead, .dead, .dead, .dead, .dead, .dead, .dead, .dead, .dead, .dead, .dead, .dead, .dead, .dead, .dead, .dead, .dead, .dead, .dead, .dead, .dead, .dead, .dead, .dead, .dead, .dead, .dead, .dead, .dead, .dead, .dead, .dead, .dead, .dead, .dead, .dead, .dead], [.row (.int .u8)]⟩) | [66], 5 => some (.tmpl ⟨[.pl (.sl (.int .i64)), .dead, .dead, .whole 0, .pl (.int .i64), .pl (.int .i64), .pl (.int .i64), .pl (.int .i64), .dead, .dead, .dead, .dead, .dead, .dead, .dead, .dead, .dead, .dead, .dead, .dead, .dead, .dead, .dead, .dead, .dead, .dead, .dead, .dead, .dead, .dead, .dead, .dead, .dead, .dead, .dead, .dead, .dead, .dead, .dead, .dead, .dead, .dead, .dead, .dead, .dead, .dead, .dead, .dead, .dead, .dead, .dead, .dead, .dead, .dead, .dead, .dead, .dead, .dead, .dead, .dead, .dead, .dead, .dead, .dead, .dead, .dead, .dead, .dead, .dead, .dead, .dead, .dead, .dead, .dead, .dead, .dead, .dead, .dead, .dead, .dead, .dead, .dead, .dead, .dead, .dead, .dead, .dead, .dead, .dead, .dead, .dead, .dead, .dead, .dead, .dead, .dead, .dead], [.row (.int .u8)]⟩) | [66], 7 => some (.tmpl ⟨[.pl (.sl (.int .i64)), .dead, .dead, .whole 0, .pl (.int .i64), .dead, .pl (.int .i64), .dead, .pl (.int .i64), .pl (.int .i64), .dead, .dead, .dead, .dead, .dead, .dead, .dead, .dead, .dead, .dead, .dead, .dead, .dead, .dead, .dead, .dead, .dead, .dead, .dead, .dead, .dead, .dead, .dead, .dead, .dead, .dead, .dead, .dead, .dead, .dead, .dead, .dead, .dead, .dead, .dead, .dead, .dead, .dead, .dead, .dead, .dead, .dead, .dead, .dead, .dead, .dead, .dead, .dead, .dead, .dead, .dead, .dead, .dead, .dead, .dead, .dead, .dead, .dead, .dead, .dead, .dead, .dead, .dead, .dead, .dead, .dead, .dead, .dead, .dead, .dead, .dead, .dead, .dead, .dead, .dead, .dead, .dead, .dead, .dead, .dead, .dead, .dead, .dead, .dead, .dead, .dead, .dead], [.row (.int .u8)]⟩) | _, _ => none
theorem ev66 : ∀ x, evalFn env66 ann66 66 ⟨[.pl (.sl (.int .i64))], []⟩ ⟨[.pl (.sl (.int .u8))], []⟩ 60 K0 x = pontagelaw0_RepetitiveBytes x := by intro x; kernel_rfl
theorem ok66 : ConOk Try.prog 66 pontagelaw0_RepetitiveBytesC := con_of_ev (E := env66) (envOk tysOk eqsOk (show HowsOk Try.prog [(67, .con pontagelaw0_ModC)] from (And.intro ok67 trivial)) follows) noOddP fun x _ h => ⟨ann66, 60, K0, (ev66 x).trans h⟩
/-- pontage/pontagelaw0.EdgeUint256 -/
noncomputable def pontagelaw0_EdgeUint256C : Con := ⟨_, _, pontagelaw0_EdgeUint256⟩
noncomputable def env68 : Env := mkEnv Try.prog tys eqs [(67, .con pontagelaw0_ModC)]
def ann68 : Anns := fun _ _ => none
theorem ev68 : ∀ x, evalFn env68 ann68 68 ⟨[.pl (.int .u64), .pl (.int .u64), .pl (.int .i64)], []⟩ ⟨[.pl (.arr 4 (.int .u64))], []⟩ 60 K0 x = pontagelaw0_EdgeUint256 x := by intro x; kernel_rfl
theorem ok68 : ConOk Try.prog 68 pontagelaw0_EdgeUint256C := con_of_ev (E := env68) (envOk tysOk eqsOk (show HowsOk Try.prog [(67, .con pontagelaw0_ModC)] from (And.intro ok67 trivial)) follows) noOddP fun x _ h => ⟨ann68, 60, K0, (ev68 x).trans h⟩
/-- pontage/pontagelaw23.build -/
noncomputable def pontagelaw23_buildC : Con := ⟨_, _, pontagelaw23_build⟩
noncomputable def env30 : Env := mkEnv Try.prog tys eqs [(39, .con uint256_SaturatingAddC), (66, .con pontagelaw0_RepetitiveBytesC), (67, .con pontagelaw0_ModC), (68, .con pontagelaw0_EdgeUint256C)]
def ann30 : Anns := fun p c => match p, c with | [1000000, 30], 13 => some (.join ⟨[.dead, .ptr 0 [], .ptr 1 [], .ptr 2 [], .ptr 3 [], .ptr 4 [], .ptr 5 [], .dead, .dead, .dead, .dead, .dead, .dead, .dead, .dead, .dead, .dead, .dead, .dead, .dead, .dead, .dead, .dead, .dead, .dead, .dead, .dead, .dead, .dead, .dead, .dead, .dead, .dead, .dead, .dead, .dead, .dead, .dead, .dead, .dead, .dead, .dead, .dead, .dead, .dead, .dead, .dead, .dead, .dead, .dead, .dead, .dead, .dead, .dead, .dead, .dead, .dead, .dead, .dead, .dead, .dead, .dead, .dead, .dead, .dead, .dead, .dead, .dead, .dead, .dead, .dead, .dead, .dead, .dead, .dead, .dead, .dead, .dead, .dead, .dead, .dead, .dead, .dead, .dead, .dead, .dead, .dead, .dead, .dead, .dead, .dead, .dead, .dead, .dead, .dead, .dead, .dead, .dead, .dead, .dead, .dead, .dead, .dead, .dead, .dead, .dead, .dead, .dead, .dead, .dead, .dead, .dead, .dead, .dead, .dead, .dead], [.box (.cons (.int .u64) (.cons (.int .u64) (.cons (.int .u64) (.cons (.int .u64) (.cons (.int .u64) (.cons (.int .u64) (.cons (.int .i64) (.cons (.sl (.int .i64)) .nil)))))))) (.pl (.cons (.int .u64) (.cons (.int .u64) (.cons (.int .u64) (.cons (.int .u64) (.cons (.int .u64) (.cons (.int .u64) (.cons (.int .i64) (.cons (.sl (.int .i64)) .nil))))))))), .box (.cons (.int .u64) (.cons (.int .u64) (.cons (.int .u64) (.cons (.arr 4 (.int .u64)) (.cons (.int .u64) (.cons (.arr 4 (.int .u64)) (.cons (.arr 4 (.int .u64)) (.cons (.int .u64) (.cons (.sl (.int .u8)) .nil))))))))) (.pl (.cons (.int .u64) (.cons (.int .u64) (.cons (.int .u64) (.cons (.arr 4 (.int .u64)) (.cons (.int .u64) (.cons (.arr 4 (.int .u64)) (.cons (.arr 4 (.int .u64)) (.cons (.int .u64) (.cons (.sl (.int .u8)) .nil)))))))))), .box (.arr 4 (.int .u64)) (.pl (.arr 4 (.int .u64))), .box (.arr 4 (.int .u64)) (.pl (.arr 4 (.int .u64))), .box (.arr 4 (.int .u64)) (.pl (.arr 4 (.int .u64))), .box (.cons (.int .u64) (.cons (.int .u64) (.cons (.int .u64) (.cons (.arr 4 (.int .u64)) (.cons (.int .u64) (.cons (.arr 4 (.int .u64)) (.cons (.arr 4 (.int .u64)) (.cons (.int .u64) (.cons (.sl (.int .u8)) .nil))))))))) (.pl (.cons (.int .u64) (.cons (.int .u64) (.cons (.int .u64) (.cons (.arr 4 (.int .u64)) (.cons (.int .u64) (.cons (.arr 4 (.int .u64)) (.cons (.arr 4 (.int .u64)) (.cons (.int .u64) (.cons (.sl (.int .u8)) .nil))))))))))]⟩) | _, _ => none
theorem ev30 : ∀ x, evalFn env30 ann30 30 ⟨[.pl (.cons (.int .u64) (.cons (.int .u64) (.cons (.int .u64) (.cons (.int .u64) (.cons (.int .u64) (.cons (.int .u64) (.cons (.int .i64) (.cons (.sl (.int .i64)) .nil))))))))], []⟩ ⟨[.pl (.cons (.int .u64) (.cons (.int .u64) (.cons (.int .u64) (.cons (.arr 4 (.int .u64)) (.cons (.int .u64) (.cons (.arr 4 (.int .u64)) (.cons (.arr 4 (.int .u64)) (.cons (.int .u64) (.cons (.sl (.int .u8)) .nil))))))))), .pl (.arr 4 (.int .u64)), .pl (.arr 4 (.int .u64))], []⟩ 60 K0 x = pontagelaw23_build x := by intro x; kernel_rfl
theorem ok30 : ConOk Try.prog 30 pontagelaw23_buildC := con_of_ev (E := env30) (envOk tysOk eqsOk (show HowsOk Try.prog [(39, .con uint256_SaturatingAddC), (66, .con pontagelaw0_RepetitiveBytesC), (67, .con pontagelaw0_ModC), (68, .con pontagelaw0_EdgeUint256C)] from (And.intro ok39 (And.intro ok66 (And.intro ok67 (And.intro ok68 trivial))))) follows) noOddP fun x _ h => ⟨ann30, 60, K0, (ev30 x).trans h⟩
/-- pontage/lz.matchLen -/
noncomputable def lz_matchLenC : Con := ⟨_, _, lz_matchLen⟩
noncomputable def env105 : Env := mkEnv Try.prog tys eqs []
def ann105 : Anns := fun p c => match p, c with | [105], 0 => some (.tmpl ⟨[.pl (.sl (.int .u8)), .pl (.int .i64), .pl (.int .i64), .pl (.int .i64), .dead, .dead, .dead, .dead, .dead, .pl (.int .i64), .dead, .dead, .dead, .dead, .dead, .dead, .dead, .dead, .dead, .dead, .dead, .dead, .dead, .dead, .dead, .dead, .dead, .dead, .dead, .dead, .dead, .dead, .dead], []⟩) | _, _ => none
theorem ev105 : ∀ x, evalFn env105 ann105 105 ⟨[.pl (.sl (.int .u8)), .pl (.int .i64), .pl (.int .i64), .pl (.int .i64)], []⟩ ⟨[.pl (.int .i64)], []⟩ 60 K0 x = lz_matchLen x := by intro x; kernel_rfl
theorem ok105 : ConOk Try.prog 105 lz_matchLenC := con_of_ev (E := env105) (envOk tysOk eqsOk (show HowsOk Try.prog [] from trivial) follows) noOddP fun x _ h => ⟨ann105, 60, K0, (ev105 x).trans h⟩
/-- pontage/lz.longestMatch -/
noncomputable def lz_longestMatchC : Con := ⟨_, _, lz_longestMatch⟩
noncomputable def env94 : Env := mkEnv Try.prog tys eqs [(105, .con lz_matchLenC)]
def ann94 : Anns := fun p c => match p, c with | [1000000, 94], 6 => some (.join ⟨[.pl (.sl (.int .u8)), .pl (.int .i64), .dead, .dead, .pl (.int .i64), .pl (.int .i64), .pl (.int .i64), .pl (.int .i64), .dead, .dead, .dead, .dead, .dead, .dead, .dead, .dead, .dead, .dead, .dead, .pl (.int .i64), .pl (.int .i64), .pl .bool, .dead, .dead, .dead, .dead, .dead, .dead, .dead, .dead, .dead, .dead, .dead, .dead, .dead, .dead, .dead], []⟩) | [94], 0 => some (.tmpl ⟨[.pl (.sl (.int .u8)), .pl (.int .i64), .dead, .dead, .pl (.int .i64), .pl (.int .i64), .pl (.int .i64), .pl (.int .i64), .dead, .dead, .dead, .dead, .dead, .dead, .dead, .dead, .dead, .dead, .dead, .dead, .dead, .dead, .dead, .dead, .dead, .dead, .dead, .dead, .dead, .dead, .dead, .dead, .dead, .dead, .dead, .dead, .dead], []⟩) | _, _ => none
theorem ev94 : ∀ x, evalFn env94 ann94 94 ⟨[.pl (.sl (.int .u8)), .pl (.int .i64)], []⟩ ⟨[.pl (.int .i64), .pl (.int .i64)], []⟩ 60 K0 x = lz_longestMatch x := by intro x; kernel_rfl
theorem ok94 : ConOk Try.prog 94 lz_longestMatchC := con_of_ev (E := env94) (envOk tysOk eqsOk (show HowsOk Try.prog [(105, .con lz_matchLenC)] from (And.intro ok105 trivial)) follows) noOddP fun x _ h => ⟨ann94, 60, K0, (ev94 x).trans h⟩
/-- pontage/lz.Compress -/
noncomputable def lz_CompressC : Con := ⟨_, _, lz_Compress⟩
noncomputable def env77 : Env := mkEnv Try.prog tys eqs [(94, .con lz_longestMatchC), (95, .inl)]
def ann77 : Anns := fun p c => match p, c with | [77], 0 => some (.tmpl ⟨[.pl (.sl (.int .u8)), .dead, .dead, .whole 0, .pl (.int .i64), .pl (.int .i64), .dead, .dead, .dead, .dead, .dead, .dead, .dead, .dead, .dead, .dead, .dead, .dead, .dead, .dead, .dead, .dead, .dead, .dead, .dead, .dead, .dead, .dead, .dead, .dead, .dead, .dead, .dead, .dead, .dead, .dead, .dead, .dead, .dead, .dead, .dead, .dead, .dead, .dead, .dead, .dead, .dead, .dead, .dead, .dead], [.row (.int .u8)]⟩) | [95, 11, 4, 77], 0 => some (.tmpl ⟨[.whole 0, .pl (.sl (.int .u8)), .dead, .dead, .dead, .dead, .dead, .dead, .dead, .dead, .dead, .dead, .dead, .dead, .dead, .dead, .dead, .dead, .dead, .dead, .dead, .dead, .dead, .dead, .dead, .dead, .dead, .dead, .dead, .dead, .dead, .dead, .dead, .dead, .dead, .dead, .dead, .dead, .dead, .dead, .dead, .dead, .dead, .dead, .dead, .dead, .dead, .dead, .dead, .dead, .dead, .dead, .dead, .dead, .dead, .dead, .dead, .dead, .dead, .dead, .dead, .dead, .dead, .dead, .dead, .dead, .dead, .dead, .dead, .dead, .dead, .dead, .dead, .dead, .dead], [.row (.int .u8)]⟩) | [95, 7, 5, 77], 0 => some (.tmpl ⟨[.whole 0, .pl (.sl (.int .u8)), .dead, .dead, .dead, .dead, .dead, .dead, .dead, .dead, .dead, .dead, .dead, .dead, .dead, .dead, .dead, .dead, .dead, .dead, .dead, .dead, .dead, .dead, .dead, .pl (.sl (.int .u8)), .dead, .dead, .dead, .dead, .pl (.int .i64), .pl (.int .i64), .pl (.int .i64), .dead, .dead, .dead, .dead, .dead, .dead, .dead, .dead, .dead, .dead, .dead, .dead, .dead, .dead, .dead, .dead, .dead, .dead, .dead, .dead, .dead, .dead, .dead, .dead, .dead, .dead, .dead, .dead, .dead, .dead, .dead, .dead, .dead, .dead, .dead, .dead, .dead, .dead, .dead, .dead, .dead, .dead], [.row (.int .u8)]⟩) | _, _ => none
theorem ev77 : ∀ x, evalFn env77 ann77 77 ⟨[.pl (.sl (.int .u8))], []⟩ ⟨[.pl (.sl (.int .u8))], []⟩ 90 K0 x = lz_Compress x := by intro x; kernel_rfl
theorem ok77 : ConOk Try.prog 77 lz_CompressC := con_of_ev (E := env77) (envOk tysOk eqsOk (show HowsOk Try.prog [(94, .con lz_longestMatchC), (95, .inl)] from (And.intro ok94 trivial)) follows) noOddP fun x _ h => ⟨ann77, 90, K0, (ev77 x).trans h⟩
/-- pontage/sizeest.Units -/
noncomputable def sizeest_UnitsC : Con := ⟨_, _, sizeest_Units⟩
noncomputable def env33 : Env := mkEnv Try.prog tys eqs [(77, .con lz_CompressC)]
def ann33 : Anns := fun _ _ => none
theorem ev33 : ∀ x, evalFn env33 ann33 33 ⟨[.pl (.sl (.int .u8)), .pl (.int .u64), .pl (.int .u64)], []⟩ ⟨[.pl (.int .u64), .pl (.int .i64)], []⟩ 60 K0 x = sizeest_Units x := by intro x; kernel_rfl
theorem ok33 : ConOk Try.prog 33 sizeest_UnitsC := con_of_ev (E := env33) (envOk tysOk eqsOk (show HowsOk Try.prog [(77, .con lz_CompressC)] from (And.intro ok77 trivial)) follows) noOddP fun x _ h => ⟨ann33, 60, K0, (ev33 x).trans h⟩
/-- pontage/sizeest.Cost -/
noncomputable def sizeest_CostC : Con := ⟨_, _, sizeest_Cost⟩
noncomputable def env34 : Env := mkEnv Try.prog tys eqs [(42, .con uint256_MulC), (45, .con uint256_FromUint64C)]
def ann34 : Anns := fun _ _ => none
theorem ev34 : ∀ x, evalFn env34 ann34 34 ⟨[.pl (.int .u64), .pl (.arr 4 (.int .u64))], []⟩ ⟨[.pl (.arr 4 (.int .u64)), .pl (.int .i64)], []⟩ 60 K0 x = sizeest_Cost x := by intro x; kernel_rfl
theorem ok34 : ConOk Try.prog 34 sizeest_CostC := con_of_ev (E := env34) (envOk tysOk eqsOk (show HowsOk Try.prog [(42, .con uint256_MulC), (45, .con uint256_FromUint64C)] from (And.intro ok42 (And.intro ok45 trivial))) follows) noOddP fun x _ h => ⟨ann34, 60, K0, (ev34 x).trans h⟩
/-- pontage/uint256.Uint64 -/
noncomputable def uint256_Uint64C : Con := ⟨_, _, uint256_Uint64⟩
noncomputable def env91 : Env := mkEnv Try.prog tys eqs []
def ann91 : Anns := fun _ _ => none
theorem ev91 : ∀ x, evalFn env91 ann91 91 ⟨[.pl (.arr 4 (.int .u64))], []⟩ ⟨[.pl (.int .u64), .pl .bool], []⟩ 60 K0 x = uint256_Uint64 x := by intro x; kernel_rfl
theorem ok91 : ConOk Try.prog 91 uint256_Uint64C := con_of_ev (E := env91) (envOk tysOk eqsOk (show HowsOk Try.prog [] from trivial) follows) noOddP fun x _ h => ⟨ann91, 60, K0, (ev91 x).trans h⟩
/-- pontage/txfee.meter -/
noncomputable def txfee_meterC : Con := ⟨_, _, txfee_meter⟩
noncomputable def env69 : Env := mkEnv Try.prog tys eqs [(33, .con sizeest_UnitsC), (34, .con sizeest_CostC), (65, .con muldiv_DivModC), (91, .con uint256_Uint64C)]
def ann69 : Anns := fun p c => match p, c with | [1000000, 69], 14 => some (.join ⟨[.dead, .dead, .dead, .dead, .ptr 0 [], .dead, .dead, .dead, .ptr 1 [], .dead, .pl (.int .u64), .dead, .dead, .dead, .dead, .pl (.int .u64), .dead, .dead, .dead, .dead, .dead, .dead, .dead, .dead, .dead, .dead, .dead, .dead, .dead, .dead, .dead, .dead, .dead, .dead, .dead, .dead, .dead, .dead, .dead, .dead, .dead, .dead, .dead, .dead, .dead, .dead, .dead, .dead, .dead, .dead, .dead, .dead, .dead, .dead, .dead, .dead, .dead, .dead, .dead, .dead, .dead, .dead, .dead, .dead, .dead, .dead, .dead, .dead, .dead, .dead, .dead, .dead, .dead, .dead, .dead, .dead, .dead, .dead, .dead, .dead, .dead, .dead, .dead, .dead, .dead], [.box (.cons (.int .u64) (.cons (.int .u64) (.cons (.int .u64) (.cons (.arr 4 (.int .u64)) (.cons (.int .u64) (.cons (.arr 4 (.int .u64)) (.cons (.arr 4 (.int .u64)) (.cons (.int .u64) (.cons (.sl (.int .u8)) .nil))))))))) (.pl (.cons (.int .u64) (.cons (.int .u64) (.cons (.int .u64) (.cons (.arr 4 (.int .u64)) (.cons (.int .u64) (.cons (.arr 4 (.int .u64)) (.cons (.arr 4 (.int .u64)) (.cons (.int .u64) (.cons (.sl (.int .u8)) .nil)))))))))), .box (.cons (.int .u64) (.cons (.int .u64) (.cons (.int .u64) (.cons (.int .u64) (.cons .bool (.cons (.arr 4 (.int .u64)) (.cons (.arr 4 (.int .u64)) (.cons (.arr 4 (.int .u64)) (.cons (.arr 4 (.int .u64)) (.cons (.arr 4 (.int .u64)) .nil)))))))))) (.pl (.cons (.int .u64) (.cons (.int .u64) (.cons (.int .u64) (.cons (.int .u64) (.cons .bool (.cons (.arr 4 (.int .u64)) (.cons (.arr 4 (.int .u64)) (.cons (.arr 4 (.int .u64)) (.cons (.arr 4 (.int .u64)) (.cons (.arr 4 (.int .u64)) .nil)))))))))))]⟩) | _, _ => none
theorem ev69 : ∀ x, evalFn env69 ann69 69 ⟨[.pl (.cons (.int .u64) (.cons (.int .u64) (.cons (.int .u64) (.cons (.arr 4 (.int .u64)) (.cons (.int .u64) (.cons (.arr 4 (.int .u64)) (.cons (.arr 4 (.int .u64)) (.cons (.int .u64) (.cons (.sl (.int .u8)) .nil))))))))), .pl (.arr 4 (.int .u64)), .pl (.arr 4 (.int .u64)), .pl (.cons (.int .u64) (.cons (.int .u64) (.cons (.int .u64) (.cons (.arr 4 (.int .u64)) (.cons (.int .u64) (.cons (.arr 4 (.int .u64)) (.cons (.int .u64) (.cons (.arr 4 (.int .u64)) (.cons (.int .u64) (.cons (.int .u64) (.cons (.int .u64) (.cons (.int .u64) .nil))))))))))))], []⟩ ⟨[.pl (.cons (.int .u64) (.cons (.int .u64) (.cons (.int .u64) (.cons (.int .u64) (.cons .bool (.cons (.arr 4 (.int .u64)) (.cons (.arr 4 (.int .u64)) (.cons (.arr 4 (.int .u64)) (.cons (.arr 4 (.int .u64)) (.cons (.arr 4 (.int .u64)) .nil)))))))))), .pl (.int .i64)], []⟩ 60 K0 x = txfee_meter x := by intro x; kernel_rfl
theorem ok69 : ConOk Try.prog 69 txfee_meterC := con_of_ev (E := env69) (envOk tysOk eqsOk (show HowsOk Try.prog [(33, .con sizeest_UnitsC), (34, .con sizeest_CostC), (65, .con muldiv_DivModC), (91, .con uint256_Uint64C)] from (And.intro ok33 (And.intro ok34 (And.intro ok65 (And.intro ok91 trivial))))) follows) noOddP fun x _ h => ⟨ann69, 60, K0, (ev69 x).trans h⟩
/-- pontage/muldiv.Mul -/
noncomputable def muldiv_MulC : Con := ⟨_, _, muldiv_Mul⟩
noncomputable def env97 : Env := mkEnv Try.prog tys eqs [(81, .con math_bits_Mul64C), (82, .con add64C)]
def ann97 : Anns := fun p c => match p, c with | [97], 0 => some (.tmpl ⟨[.dead, .dead, .ptr 0 [], .ptr 1 [], .ptr 2 [], .ptr 3 [], .ptr 4 [], .dead, .dead, .dead, .dead, .dead, .dead, .pl (.int .i64), .dead, .dead, .dead, .dead, .dead, .dead, .dead, .dead, .dead, .dead, .dead, .dead, .dead, .dead, .dead, .dead, .dead, .dead, .dead, .dead, .dead, .dead, .dead, .dead, .dead, .dead, .dead, .dead, .dead, .dead, .dead, .dead, .dead, .dead, .dead, .dead, .dead, .dead, .dead, .dead, .dead, .dead, .dead, .dead, .dead, .dead, .dead, .dead, .dead, .dead, .dead, .dead, .dead, .dead, .dead], [.box (.arr 4 (.int .u64)) (.pl (.arr 4 (.int .u64))), .box (.arr 4 (.int .u64)) (.pl (.arr 4 (.int .u64))), .box (.arr 4 (.int .u64)) (.pl (.arr 4 (.int .u64))), .box (.arr 4 (.int .u64)) (.pl (.arr 4 (.int .u64))), .box (.arr 8 (.int .u64)) (.pl (.arr 8 (.int .u64)))]⟩) | [97], 2 => some (.tmpl ⟨[.dead, .dead, .ptr 0 [], .ptr 1 [], .ptr 2 [], .ptr 3 [], .ptr 4 [], .pl (.int .i64), .pl (.int .u64), .dead, .dead, .dead, .dead, .pl (.int .i64), .dead, .dead, .pl (.int .i64), .dead, .dead, .dead, .dead, .dead, .dead, .dead, .dead, .dead, .dead, .dead, .dead, .dead, .dead, .dead, .dead, .dead, .dead, .dead, .dead, .dead, .dead, .dead, .dead, .dead, .dead, .dead, .dead, .dead, .dead, .dead, .dead, .dead, .dead, .dead, .dead, .dead, .dead, .dead, .dead, .dead, .dead, .dead, .dead, .dead, .dead, .dead, .dead, .dead, .dead, .dead, .dead], [.box (.arr 4 (.int .u64)) (.pl (.arr 4 (.int .u64))), .box (.arr 4 (.int .u64)) (.pl (.arr 4 (.int .u64))), .box (.arr 4 (.int .u64)) (.pl (.arr 4 (.int .u64))), .box (.arr 4 (.int .u64)) (.pl (.arr 4 (.int .u64))), .box (.arr 8 (.int .u64)) (.pl (.arr 8 (.int .u64)))]⟩) | _, _ => none
theorem ev97 : ∀ x, evalFn env97 ann97 97 ⟨[.pl (.arr 4 (.int .u64)), .pl (.arr 4 (.int .u64))], []⟩ ⟨[.pl (.arr 4 (.int .u64)), .pl (.arr 4 (.int .u64))], []⟩ 60 K0 x = muldiv_Mul x := by intro x; kernel_rfl
theorem ok97 : ConOk Try.prog 97 muldiv_MulC := con_of_ev (E := env97) (envOk tysOk eqsOk (show HowsOk Try.prog [(81, .con math_bits_Mul64C), (82, .con add64C)] from (And.intro ok81 (And.intro ok82 trivial))) follows) noOddP fun x _ h => ⟨ann97, 60, K0, (ev97 x).trans h⟩
/-- pontage/muldiv.MulDivFloor -/
noncomputable def muldiv_MulDivFloorC : Con := ⟨_, _, muldiv_MulDivFloor⟩
noncomputable def env80 : Env := mkEnv Try.prog tys eqs [(90, .con muldiv_Div512C), (97, .con muldiv_MulC)]
def ann80 : Anns := fun _ _ => none
theorem ev80 : ∀ x, evalFn env80 ann80 80 ⟨[.pl (.arr 4 (.int .u64)), .pl (.arr 4 (.int .u64)), .pl (.arr 4 (.int .u64))], []⟩ ⟨[.pl (.arr 4 (.int .u64)), .pl (.int .i64)], []⟩ 60 K0 x = muldiv_MulDivFloor x := by intro x; kernel_rfl
theorem ok80 : ConOk Try.prog 80 muldiv_MulDivFloorC := con_of_ev (E := env80) (envOk tysOk eqsOk (show HowsOk Try.prog [(90, .con muldiv_Div512C), (97, .con muldiv_MulC)] from (And.intro ok90 (And.intro ok97 trivial))) follows) noOddP fun x _ h => ⟨ann80, 60, K0, (ev80 x).trans h⟩
/-- pontage/bips.Scale -/
noncomputable def bips_ScaleC : Con := ⟨_, _, bips_Scale⟩
noncomputable def env37 : Env := mkEnv Try.prog tys eqs [(45, .con uint256_FromUint64C), (80, .con muldiv_MulDivFloorC)]
def ann37 : Anns := fun _ _ => none
theorem ev37 : ∀ x, evalFn env37 ann37 37 ⟨[.pl (.arr 4 (.int .u64)), .pl (.int .u64)], []⟩ ⟨[.pl (.arr 4 (.int .u64)), .pl (.int .i64)], []⟩ 60 K0 x = bips_Scale x := by intro x; kernel_rfl
theorem ok37 : ConOk Try.prog 37 bips_ScaleC := con_of_ev (E := env37) (envOk tysOk eqsOk (show HowsOk Try.prog [(45, .con uint256_FromUint64C), (80, .con muldiv_MulDivFloorC)] from (And.intro ok45 (And.intro ok80 trivial))) follows) noOddP fun x _ h => ⟨ann37, 60, K0, (ev37 x).trans h⟩
/-- pontage/bips.Split -/
noncomputable def bips_SplitC : Con := ⟨_, _, bips_Split⟩
noncomputable def env92 : Env := mkEnv Try.prog tys eqs [(35, .con uint256_SaturatingSubC), (37, .con bips_ScaleC)]
def ann92 : Anns := fun _ _ => none
theorem ev92 : ∀ x, evalFn env92 ann92 92 ⟨[.pl (.arr 4 (.int .u64)), .pl (.int .u64)], []⟩ ⟨[.pl (.arr 4 (.int .u64)), .pl (.arr 4 (.int .u64)), .pl (.int .i64)], []⟩ 60 K0 x = bips_Split x := by intro x; kernel_rfl
theorem ok92 : ConOk Try.prog 92 bips_SplitC := con_of_ev (E := env92) (envOk tysOk eqsOk (show HowsOk Try.prog [(35, .con uint256_SaturatingSubC), (37, .con bips_ScaleC)] from (And.intro ok35 (And.intro ok37 trivial))) follows) noOddP fun x _ h => ⟨ann92, 60, K0, (ev92 x).trans h⟩
/-- pontage/txfee.distribute -/
noncomputable def txfee_distributeC : Con := ⟨_, _, txfee_distribute⟩
noncomputable def env70 : Env := mkEnv Try.prog tys eqs [(35, .con uint256_SaturatingSubC), (38, .con uint256_MinC), (42, .con uint256_MulC), (45, .con uint256_FromUint64C), (61, .con uint256_AddC), (92, .con bips_SplitC)]
def ann70 : Anns := fun p c => match p, c with | [1000000, 70], 8 => some (.join ⟨[.dead, .dead, .dead, .ptr 0 [], .dead, .ptr 1 [], .ptr 2 [], .dead, .ptr 3 [], .dead, .ptr 4 [], .dead, .ptr 5 [], .dead, .ptr 6 [], .dead, .dead, .dead, .dead, .dead, .dead, .dead, .dead, .dead, .dead, .dead, .dead, .dead, .dead, .dead, .dead, .dead, .dead, .dead, .dead, .dead, .dead, .dead, .dead, .dead, .dead, .dead, .dead, .dead, .dead, .dead, .dead, .dead, .dead, .dead, .dead, .dead, .dead, .dead, .dead, .dead, .dead, .dead, .dead, .dead, .dead, .dead, .dead, .dead, .dead, .dead, .dead, .dead, .dead, .dead, .dead, .dead, .dead, .dead, .dead, .dead, .dead, .dead, .dead, .dead, .dead, .dead, .dead, .dead, .dead, .dead, .dead, .dead, .dead, .dead, .dead, .dead, .dead, .dead, .dead, .dead, .dead, .dead, .dead, .dead, .dead, .dead, .dead, .dead], [.box (.cons (.int .u64) (.cons (.int .u64) (.cons (.int .u64) (.cons (.int .u64) (.cons .bool (.cons (.arr 4 (.int .u64)) (.cons (.arr 4 (.int .u64)) (.cons (.arr 4 (.int .u64)) (.cons (.arr 4 (.int .u64)) (.cons (.arr 4 (.int .u64)) .nil)))))))))) (.pl (.cons (.int .u64) (.cons (.int .u64) (.cons (.int .u64) (.cons (.int .u64) (.cons .bool (.cons (.arr 4 (.int .u64)) (.cons (.arr 4 (.int .u64)) (.cons (.arr 4 (.int .u64)) (.cons (.arr 4 (.int .u64)) (.cons (.arr 4 (.int .u64)) .nil))))))))))), .box (.cons (.int .u64) (.cons (.int .u64) (.cons (.int .u64) (.cons (.arr 4 (.int .u64)) (.cons (.int .u64) (.cons (.arr 4 (.int .u64)) (.cons (.int .u64) (.cons (.arr 4 (.int .u64)) (.cons (.int .u64) (.cons (.int .u64) (.cons (.int .u64) (.cons (.int .u64) .nil)))))))))))) (.pl (.cons (.int .u64) (.cons (.int .u64) (.cons (.int .u64) (.cons (.arr 4 (.int .u64)) (.cons (.int .u64) (.cons (.arr 4 (.int .u64)) (.cons (.int .u64) (.cons (.arr 4 (.int .u64)) (.cons (.int .u64) (.cons (.int .u64) (.cons (.int .u64) (.cons (.int .u64) .nil))))))))))))), .box (.cons (.int .u64) (.cons (.int .u64) (.cons (.int .u64) (.cons (.int .u64) (.cons .bool (.cons (.arr 4 (.int .u64)) (.cons (.arr 4 (.int .u64)) (.cons (.arr 4 (.int .u64)) (.cons (.arr 4 (.int .u64)) (.cons (.arr 4 (.int .u64)) .nil)))))))))) (.pl (.cons (.int .u64) (.cons (.int .u64) (.cons (.int .u64) (.cons (.int .u64) (.cons .bool (.cons (.arr 4 (.int .u64)) (.cons (.arr 4 (.int .u64)) (.cons (.arr 4 (.int .u64)) (.cons (.arr 4 (.int .u64)) (.cons (.arr 4 (.int .u64)) .nil))))))))))), .box (.arr 4 (.int .u64)) (.pl (.arr 4 (.int .u64))), .box (.arr 4 (.int .u64)) (.pl (.arr 4 (.int .u64))), .box (.arr 4 (.int .u64)) (.pl (.arr 4 (.int .u64))), .box (.arr 4 (.int .u64)) (.pl (.arr 4 (.int .u64)))]⟩) | _, _ => none
theorem ev70 : ∀ x, evalFn env70 ann70 70 ⟨[.pl (.cons (.int .u64) (.cons (.int .u64) (.cons (.int .u64) (.cons (.int .u64) (.cons .bool (.cons (.arr 4 (.int .u64)) (.cons (.arr 4 (.int .u64)) (.cons (.arr 4 (.int .u64)) (.cons (.arr 4 (.int .u64)) (.cons (.arr 4 (.int .u64)) .nil)))))))))), .pl (.arr 4 (.int .u64)), .pl (.cons (.int .u64) (.cons (.int .u64) (.cons (.int .u64) (.cons (.arr 4 (.int .u64)) (.cons (.int .u64) (.cons (.arr 4 (.int .u64)) (.cons (.int .u64) (.cons (.arr 4 (.int .u64)) (.cons (.int .u64) (.cons (.int .u64) (.cons (.int .u64) (.cons (.int .u64) .nil))))))))))))], []⟩ ⟨[.pl (.cons (.int .u64) (.cons (.int .u64) (.cons (.int .u64) (.cons (.int .u64) (.cons .bool (.cons (.arr 4 (.int .u64)) (.cons (.arr 4 (.int .u64)) (.cons (.arr 4 (.int .u64)) (.cons (.arr 4 (.int .u64)) (.cons (.arr 4 (.int .u64)) .nil)))))))))), .pl (.int .i64)], []⟩ 60 K0 x = txfee_distribute x := by intro x; kernel_rfl
theorem ok70 : ConOk Try.prog 70 txfee_distributeC := con_of_ev (E := env70) (envOk tysOk eqsOk (show HowsOk Try.prog [(35, .con uint256_SaturatingSubC), (38, .con uint256_MinC), (42, .con uint256_MulC), (45, .con uint256_FromUint64C), (61, .con uint256_AddC), (92, .con bips_SplitC)] from (And.intro ok35 (And.intro ok38 (And.intro ok42 (And.intro ok45 (And.intro ok61 (And.intro ok92 trivial))))))) follows) noOddP fun x _ h => ⟨ann70, 60, K0, (ev70 x).trans h⟩
/-- pontage/txfee.Compute -/
noncomputable def txfee_ComputeC : Con := ⟨_, _, txfee_Compute⟩
noncomputable def env31 : Env := mkEnv Try.prog tys eqs [(35, .con uint256_SaturatingSubC), (40, .con txfee_GasPriceC), (44, .con params_ValidC), (69, .con txfee_meterC), (70, .con txfee_distributeC)]
def ann31 : Anns := fun _ _ => none
theorem ev31 : ∀ x, evalFn env31 ann31 31 ⟨[.pl (.cons (.int .u64) (.cons (.int .u64) (.cons (.int .u64) (.cons (.arr 4 (.int .u64)) (.cons (.int .u64) (.cons (.arr 4 (.int .u64)) (.cons (.arr 4 (.int .u64)) (.cons (.int .u64) (.cons (.sl (.int .u8)) .nil))))))))), .pl (.arr 4 (.int .u64)), .pl (.arr 4 (.int .u64)), .pl (.cons (.int .u64) (.cons (.int .u64) (.cons (.int .u64) (.cons (.arr 4 (.int .u64)) (.cons (.int .u64) (.cons (.arr 4 (.int .u64)) (.cons (.int .u64) (.cons (.arr 4 (.int .u64)) (.cons (.int .u64) (.cons (.int .u64) (.cons (.int .u64) (.cons (.int .u64) .nil))))))))))))], []⟩ ⟨[.pl (.cons (.int .u64) (.cons (.int .u64) (.cons (.int .u64) (.cons (.int .u64) (.cons .bool (.cons (.arr 4 (.int .u64)) (.cons (.arr 4 (.int .u64)) (.cons (.arr 4 (.int .u64)) (.cons (.arr 4 (.int .u64)) (.cons (.arr 4 (.int .u64)) .nil)))))))))), .pl (.int .i64)], []⟩ 60 K0 x = txfee_Compute x := by intro x; kernel_rfl
theorem ok31 : ConOk Try.prog 31 txfee_ComputeC := con_of_ev (E := env31) (envOk tysOk eqsOk (show HowsOk Try.prog [(35, .con uint256_SaturatingSubC), (40, .con txfee_GasPriceC), (44, .con params_ValidC), (69, .con txfee_meterC), (70, .con txfee_distributeC)] from (And.intro ok35 (And.intro ok40 (And.intro ok44 (And.intro ok69 (And.intro ok70 trivial)))))) follows) noOddP fun x _ h => ⟨ann31, 60, K0, (ev31 x).trans h⟩
/-- pontage/pontageref9.matchLength -/
noncomputable def pontageref9_matchLengthC : Con := ⟨_, _, pontageref9_matchLength⟩
noncomputable def env111 : Env := mkEnv Try.prog tys eqs []
def ann111 : Anns := fun p c => match p, c with | [111], 0 => some (.tmpl ⟨[.pl (.sl (.int .u8)), .pl (.int .i64), .pl (.int .i64), .dead, .dead, .dead, .dead, .pl (.int .i64), .dead, .dead, .dead, .dead, .dead, .dead, .dead, .dead, .dead, .dead, .dead, .dead, .dead, .dead, .dead, .dead, .dead, .dead, .dead, .dead, .dead, .dead, .dead, .dead, .dead, .dead, .dead, .dead, .dead, .dead], []⟩) | _, _ => none
theorem ev111 : ∀ x, evalFn env111 ann111 111 ⟨[.pl (.sl (.int .u8)), .pl (.int .i64), .pl (.int .i64)], []⟩ ⟨[.pl (.int .i64)], []⟩ 60 K0 x = pontageref9_matchLength x := by intro x; kernel_rfl
theorem ok111 : ConOk Try.prog 111 pontageref9_matchLengthC := con_of_ev (E := env111) (envOk tysOk eqsOk (show HowsOk Try.prog [] from trivial) follows) noOddP fun x _ h => ⟨ann111, 60, K0, (ev111 x).trans h⟩
/-- pontage/pontageref9.best -/
noncomputable def pontageref9_bestC : Con := ⟨_, _, pontageref9_best⟩
noncomputable def env109 : Env := mkEnv Try.prog tys eqs [(111, .con pontageref9_matchLengthC)]
def ann109 : Anns := fun p c => match p, c with | [1000000, 109], 6 => some (.join ⟨[.pl (.sl (.int .u8)), .pl (.int .i64), .dead, .dead, .dead, .dead, .pl (.int .i64), .pl (.int .i64), .pl (.int .i64), .dead, .dead, .dead, .dead, .pl (.int .i64), .pl (.int .i64), .pl .bool, .dead, .dead, .dead, .dead, .dead, .dead, .dead, .dead, .dead, .dead, .dead, .dead, .dead, .dead], []⟩) | [109], 0 => some (.tmpl ⟨[.pl (.sl (.int .u8)), .pl (.int .i64), .dead, .dead, .dead, .dead, .pl (.int .i64), .pl (.int .i64), .pl (.int .i64), .dead, .dead, .dead, .dead, .dead, .dead, .dead, .dead, .dead, .dead, .dead, .dead, .dead, .dead, .dead, .dead, .dead, .dead, .dead, .dead, .dead], []⟩) | _, _ => none
theorem ev109 : ∀ x, evalFn env109 ann109 109 ⟨[.pl (.sl (.int .u8)), .pl (.int .i64)], []⟩ ⟨[.pl (.int .i64), .pl (.int .i64)], []⟩ 60 K0 x = pontageref9_best x := by intro x; kernel_rfl
theorem ok109 : ConOk Try.prog 109 pontageref9_bestC := con_of_ev (E := env109) (envOk tysOk eqsOk (show HowsOk Try.prog [(111, .con pontageref9_matchLengthC)] from (And.intro ok111 trivial)) follows) noOddP fun x _ h => ⟨ann109, 60, K0, (ev109 x).trans h⟩
/-- pontage/pontageref9.Compress -/
noncomputable def pontageref9_CompressC : Con := ⟨_, _, pontageref9_Compress⟩
noncomputable def env104 : Env := mkEnv Try.prog tys eqs [(109, .con pontageref9_bestC), (110, .inl)]
def ann104 : Anns := fun p c => match p, c with | [104], 0 => some (.tmpl ⟨[.pl (.sl (.int .u8)), .dead, .dead, .whole 0, .pl (.int .i64), .pl (.int .i64), .dead, .dead, .dead, .dead, .dead, .dead, .dead, .dead, .dead, .dead, .dead, .dead, .dead, .dead, .dead, .dead, .dead, .dead, .dead, .dead, .dead, .dead, .dead, .dead, .dead, .dead, .dead, .dead, .dead, .dead, .dead, .dead, .dead, .dead, .dead, .dead, .dead, .dead, .dead, .dead, .dead, .dead, .dead, .dead, .dead], [.row (.int .u8)]⟩) | [110, 11, 4, 104], 0 => some (.tmpl ⟨[.whole 0, .pl (.sl (.int .u8)), .dead, .dead, .dead, .dead, .dead, .dead, .dead, .dead, .dead, .dead, .dead, .dead, .dead, .dead, .dead, .dead, .dead, .dead, .dead, .dead, .dead, .dead, .dead, .dead, .dead, .dead, .dead, .dead, .dead, .dead, .dead, .dead, .dead, .dead, .dead, .dead, .dead, .dead, .dead, .dead, .dead, .dead, .dead, .dead, .dead, .dead, .dead, .dead, .dead, .dead, .dead, .dead, .dead, .dead, .dead, .dead, .dead, .dead, .dead, .dead, .dead, .dead, .dead, .dead, .dead, .dead, .dead, .dead, .dead, .dead, .dead, .dead, .dead, .dead, .dead], [.row (.int .u8)]⟩) | [110, 7, 5, 104], 0 => some (.tmpl ⟨[.whole 0, .pl (.sl (.int .u8)), .dead, .dead, .dead, .dead, .dead, .dead, .dead, .dead, .dead, .dead, .dead, .dead, .dead, .dead, .dead, .dead, .dead, .dead, .dead, .dead, .dead, .dead, .dead, .dead, .pl (.sl (.int .u8)), .dead, .dead, .dead, .dead, .pl (.int .i64), .pl (.int .i64), .pl (.int .i64), .dead, .dead, .dead, .dead, .dead, .dead, .dead, .dead, .dead, .dead, .dead, .dead, .dead, .dead, .dead, .dead, .dead, .dead, .dead, .dead, .dead, .dead, .dead, .dead, .dead, .dead, .dead, .dead, .dead, .dead, .dead, .dead, .dead, .dead, .dead, .dead, .dead, .dead, .dead, .dead, .dead, .dead, .dead], [.row (.int .u8)]⟩) | _, _ => none
theorem ev104 : ∀ x, evalFn env104 ann104 104 ⟨[.pl (.sl (.int .u8))], []⟩ ⟨[.pl (.sl (.int .u8))], []⟩ 90 K0 x = pontageref9_Compress x := by intro x; kernel_rfl
theorem ok104 : ConOk Try.prog 104 pontageref9_CompressC := con_of_ev (E := env104) (envOk tysOk eqsOk (show HowsOk Try.prog [(109, .con pontageref9_bestC), (110, .inl)] from (And.intro ok109 trivial)) follows) noOddP fun x _ h => ⟨ann104, 90, K0, (ev104 x).trans h⟩
/-- pontage/pontageref10.Units -/
noncomputable def pontageref10_UnitsC : Con := ⟨_, _, pontageref10_Units⟩
noncomputable def env93 : Env := mkEnv Try.prog tys eqs [(104, .con pontageref9_CompressC)]
def ann93 : Anns := fun p c => match p, c with | [1000000, 93], 9 => some (.join ⟨[.dead, .dead, .pl (.int .u64), .dead, .dead, .dead, .dead, .dead, .pl (.int .u64), .dead, .dead, .dead, .dead, .dead, .dead, .dead, .dead, .dead, .dead, .dead, .dead, .dead, .dead, .dead, .dead, .dead, .dead, .dead, .dead], []⟩) | _, _ => none
theorem ev93 : ∀ x, evalFn env93 ann93 93 ⟨[.pl (.sl (.int .u8)), .pl (.int .u64), .pl (.int .u64)], []⟩ ⟨[.pl (.int .u64), .pl (.int .i64)], []⟩ 60 K0 x = pontageref10_Units x := by intro x; kernel_rfl
theorem ok93 : ConOk Try.prog 93 pontageref10_UnitsC := con_of_ev (E := env93) (envOk tysOk eqsOk (show HowsOk Try.prog [(104, .con pontageref9_CompressC)] from (And.intro ok104 trivial)) follows) noOddP fun x _ h => ⟨ann93, 60, K0, (ev93 x).trans h⟩
/-- pontage/pontageref23.gas -/
noncomputable def pontageref23_gasC : Con := ⟨_, _, pontageref23_gas⟩
noncomputable def env71 : Env := mkEnv Try.prog tys eqs [(47, .con pontageref12_ValidC), (52, .con pontageref1_FromUint64C), (55, .con pontageref1_FitsC), (56, .con pontageref1_DivC), (63, .con pontageref1_FromUint256C), (73, .con pontageref1_MulC), (76, .con pontageref1_ToUint256C), (85, .con pontageref1_IsZeroC), (86, .con pontageref1_CmpC), (93, .con pontageref10_UnitsC)]
def ann71 : Anns := fun _ _ => none
theorem ev71 : ∀ x, evalFn env71 ann71 71 ⟨[.pl (.cons (.int .u64) (.cons (.int .u64) (.cons (.int .u64) (.cons (.arr 4 (.int .u64)) (.cons (.int .u64) (.cons (.arr 4 (.int .u64)) (.cons (.arr 4 (.int .u64)) (.cons (.int .u64) (.cons (.sl (.int .u8)) .nil))))))))), .pl (.arr 4 (.int .u64)), .pl (.arr 4 (.int .u64)), .pl (.cons (.int .u64) (.cons (.int .u64) (.cons (.int .u64) (.cons (.arr 4 (.int .u64)) (.cons (.int .u64) (.cons (.arr 4 (.int .u64)) (.cons (.int .u64) (.cons (.arr 4 (.int .u64)) (.cons (.int .u64) (.cons (.int .u64) (.cons (.int .u64) (.cons (.int .u64) .nil))))))))))))], []⟩ ⟨[.pl (.int .u64), .pl (.int .u64), .pl (.int .i64)], []⟩ 60 K0 x = pontageref23_gas x := by intro x; kernel_rfl
theorem ok71 : ConOk Try.prog 71 pontageref23_gasC := con_of_ev (E := env71) (envOk tysOk eqsOk (show HowsOk Try.prog [(47, .con pontageref12_ValidC), (52, .con pontageref1_FromUint64C), (55, .con pontageref1_FitsC), (56, .con pontageref1_DivC), (63, .con pontageref1_FromUint256C), (73, .con pontageref1_MulC), (76, .con pontageref1_ToUint256C), (85, .con pontageref1_IsZeroC), (86, .con pontageref1_CmpC), (93, .con pontageref10_UnitsC)] from (And.intro ok47 (And.intro ok52 (And.intro ok55 (And.intro ok56 (And.intro ok63 (And.intro ok73 (And.intro ok76 (And.intro ok85 (And.intro ok86 (And.intro ok93 trivial))))))))))) follows) noOddP fun x _ h => ⟨ann71, 60, K0, (ev71 x).trans h⟩
/-- pontage/pontageref1.Min -/
noncomputable def pontageref1_MinC : Con := ⟨_, _, pontageref1_Min⟩
noncomputable def env74 : Env := mkEnv Try.prog tys eqs [(86, .con pontageref1_CmpC)]
def ann74 : Anns := fun _ _ => none
theorem ev74 : ∀ x, evalFn env74 ann74 74 ⟨[.pl (.sl (.int .i64)), .pl (.sl (.int .i64))], []⟩ ⟨[.pl (.sl (.int .i64))], []⟩ 60 K0 x = pontageref1_Min x := by intro x; kernel_rfl
theorem ok74 : ConOk Try.prog 74 pontageref1_MinC := con_of_ev (E := env74) (envOk tysOk eqsOk (show HowsOk Try.prog [(86, .con pontageref1_CmpC)] from (And.intro ok86 trivial)) follows) noOddP fun x _ h => ⟨ann74, 60, K0, (ev74 x).trans h⟩
/-- pontage/pontageref23.tip -/
noncomputable def pontageref23_tipC : Con := ⟨_, _, pontageref23_tip⟩
noncomputable def env72 : Env := mkEnv Try.prog tys eqs [(63, .con pontageref1_FromUint256C), (74, .con pontageref1_MinC), (75, .fresh pontageref1_SubC)]
def ann72 : Anns := fun _ _ => none
theorem ev72 : ∀ x, evalFn env72 ann72 72 ⟨[.pl (.cons (.int .u64) (.cons (.int .u64) (.cons (.int .u64) (.cons (.arr 4 (.int .u64)) (.cons (.int .u64) (.cons (.arr 4 (.int .u64)) (.cons (.arr 4 (.int .u64)) (.cons (.int .u64) (.cons (.sl (.int .u8)) .nil))))))))), .pl (.arr 4 (.int .u64))], []⟩ ⟨[.pl (.sl (.int .i64))], []⟩ 60 K0 x = pontageref23_tip x := by intro x; kernel_rfl
theorem ok72 : ConOk Try.prog 72 pontageref23_tipC := con_of_ev (E := env72) (envOk tysOk eqsOk (show HowsOk Try.prog [(63, .con pontageref1_FromUint256C), (74, .con pontageref1_MinC), (75, .fresh pontageref1_SubC)] from (And.intro ok63 (And.intro ok74 (And.intro okf75 trivial)))) follows) noOddP fun x _ h => ⟨ann72, 60, K0, (ev72 x).trans h⟩
/-- pontage/pontageref23.Compute -/
noncomputable def pontageref23_ComputeC : Con := ⟨_, _, pontageref23_Compute⟩
noncomputable def env32 : Env := mkEnv Try.prog tys eqs [(52, .con pontageref1_FromUint64C), (55, .con pontageref1_FitsC), (56, .con pontageref1_DivC), (58, .con pontageref1_AddC), (63, .con pontageref1_FromUint256C), (71, .con pontageref23_gasC), (72, .con pontageref23_tipC), (73, .con pontageref1_MulC), (74, .con pontageref1_MinC), (75, .fresh pontageref1_SubC), (76, .con pontageref1_ToUint256C)]
def ann32 : Anns := fun p c => match p, c with | [1000000, 32], 20 => some (.join ⟨[.dead, .dead, .dead, .dead, .dead, .dead, .dead, .dead, .ptr 0 [], .dead, .dead, .dead, .dead, .ptr 1 [], .dead, .pl (.sl (.int .i64)), .pl (.sl (.int .i64)), .dead, .pl (.sl (.int .i64)), .dead, .pl (.sl (.int .i64)), .dead, .pl (.sl (.int .i64)), .dead, .dead, .dead, .dead, .dead, .dead, .dead, .dead, .dead, .dead, .dead, .dead, .dead, .dead, .dead, .dead, .dead, .dead, .dead, .dead, .dead, .dead, .dead, .dead, .dead, .dead, .dead, .dead, .dead, .dead, .dead, .dead, .dead, .dead, .dead, .dead, .dead, .dead, .dead, .dead, .dead, .dead, .dead, .dead, .dead, .dead, .dead, .dead, .dead, .dead, .dead, .dead, .dead, .dead, .dead, .dead, .dead, .dead, .dead, .dead, .dead, .dead, .dead, .dead, .dead, .dead, .dead, .dead, .dead, .dead, .dead, .dead, .dead, .dead, .dead, .dead, .dead, .dead, .dead, .dead, .dead, .dead, .dead, .dead, .dead, .dead, .dead, .dead, .dead, .dead, .dead, .dead, .dead, .dead, .dead, .dead, .dead, .dead, .dead, .dead, .dead, .dead, .dead, .dead, .dead, .dead, .dead, .dead, .dead, .dead, .dead], [.box (.cons (.int .u64) (.cons (.int .u64) (.cons (.int .u64) (.cons (.int .u64) (.cons .bool (.cons (.arr 4 (.int .u64)) (.cons (.arr 4 (.int .u64)) (.cons (.arr 4 (.int .u64)) (.cons (.arr 4 (.int .u64)) (.cons (.arr 4 (.int .u64)) .nil)))))))))) (.pl (.cons (.int .u64) (.cons (.int .u64) (.cons (.int .u64) (.cons (.int .u64) (.cons .bool (.cons (.arr 4 (.int .u64)) (.cons (.arr 4 (.int .u64)) (.cons (.arr 4 (.int .u64)) (.cons (.arr 4 (.int .u64)) (.cons (.arr 4 (.int .u64)) .nil))))))))))), .box (.cons (.int .u64) (.cons (.int .u64) (.cons (.int .u64) (.cons (.int .u64) (.cons .bool (.cons (.arr 4 (.int .u64)) (.cons (.arr 4 (.int .u64)) (.cons (.arr 4 (.int .u64)) (.cons (.arr 4 (.int .u64)) (.cons (.arr 4 (.int .u64)) .nil)))))))))) (.pl (.cons (.int .u64) (.cons (.int .u64) (.cons (.int .u64) (.cons (.int .u64) (.cons .bool (.cons (.arr 4 (.int .u64)) (.cons (.arr 4 (.int .u64)) (.cons (.arr 4 (.int .u64)) (.cons (.arr 4 (.int .u64)) (.cons (.arr 4 (.int .u64)) .nil)))))))))))]⟩) | [1000000, 32], 9 => some (.join ⟨[.dead, .dead, .dead, .dead, .ptr 0 [], .ptr 1 [], .dead, .ptr 2 [], .ptr 3 [], .dead, .dead, .pl (.int .u64), .dead, .ptr 4 [], .dead, .dead, .dead, .dead, .dead, .dead, .dead, .dead, .dead, .dead, .dead, .dead, .dead, .dead, .dead, .dead, .dead, .dead, .dead, .dead, .dead, .dead, .dead, .dead, .dead, .dead, .dead, .dead, .dead, .dead, .dead, .dead, .dead, .dead, .dead, .dead, .dead, .dead, .dead, .dead, .dead, .dead, .dead, .dead, .dead, .dead, .dead, .dead, .dead, .dead, .dead, .dead, .dead, .dead, .dead, .dead, .dead, .dead, .dead, .dead, .dead, .dead, .dead, .dead, .dead, .dead, .dead, .dead, .dead, .dead, .dead, .dead, .dead, .dead, .dead, .dead, .dead, .dead, .dead, .dead, .dead, .dead, .dead, .dead, .dead, .dead, .dead, .dead, .dead, .dead, .dead, .dead, .dead, .dead, .dead, .dead, .dead, .dead, .dead, .dead, .dead, .dead, .dead, .dead, .dead, .dead, .dead, .dead, .dead, .dead, .dead, .dead, .dead, .dead, .dead, .dead, .dead, .dead, .dead, .dead], [.box (.cons (.int .u64) (.cons (.int .u64) (.cons (.int .u64) (.cons (.arr 4 (.int .u64)) (.cons (.int .u64) (.cons (.arr 4 (.int .u64)) (.cons (.arr 4 (.int .u64)) (.cons (.int .u64) (.cons (.sl (.int .u8)) .nil))))))))) (.pl (.cons (.int .u64) (.cons (.int .u64) (.cons (.int .u64) (.cons (.arr 4 (.int .u64)) (.cons (.int .u64) (.cons (.arr 4 (.int .u64)) (.cons (.arr 4 (.int .u64)) (.cons (.int .u64) (.cons (.sl (.int .u8)) .nil)))))))))), .box (.arr 4 (.int .u64)) (.pl (.arr 4 (.int .u64))), .box (.cons (.int .u64) (.cons (.int .u64) (.cons (.int .u64) (.cons (.arr 4 (.int .u64)) (.cons (.int .u64) (.cons (.arr 4 (.int .u64)) (.cons (.int .u64) (.cons (.arr 4 (.int .u64)) (.cons (.int .u64) (.cons (.int .u64) (.cons (.int .u64) (.cons (.int .u64) .nil)))))))))))) (.pl (.cons (.int .u64) (.cons (.int .u64) (.cons (.int .u64) (.cons (.arr 4 (.int .u64)) (.cons (.int .u64) (.cons (.arr 4 (.int .u64)) (.cons (.int .u64) (.cons (.arr 4 (.int .u64)) (.cons (.int .u64) (.cons (.int .u64) (.cons (.int .u64) (.cons (.int .u64) .nil))))))))))))), .box (.cons (.int .u64) (.cons (.int .u64) (.cons (.int .u64) (.cons (.int .u64) (.cons .bool (.cons (.arr 4 (.int .u64)) (.cons (.arr 4 (.int .u64)) (.cons (.arr 4 (.int .u64)) (.cons (.arr 4 (.int .u64)) (.cons (.arr 4 (.int .u64)) .nil)))))))))) (.pl (.cons (.int .u64) (.cons (.int .u64) (.cons (.int .u64) (.cons (.int .u64) (.cons .bool (.cons (.arr 4 (.int .u64)) (.cons (.arr 4 (.int .u64)) (.cons (.arr 4 (.int .u64)) (.cons (.arr 4 (.int .u64)) (.cons (.arr 4 (.int .u64)) .nil))))))))))), .box (.cons (.int .u64) (.cons (.int .u64) (.cons (.int .u64) (.cons (.int .u64) (.cons .bool (.cons (.arr 4 (.int .u64)) (.cons (.arr 4 (.int .u64)) (.cons (.arr 4 (.int .u64)) (.cons (.arr 4 (.int .u64)) (.cons (.arr 4 (.int .u64)) .nil)))))))))) (.pl (.cons (.int .u64) (.cons (.int .u64) (.cons (.int .u64) (.cons (.int .u64) (.cons .bool (.cons (.arr 4 (.int .u64)) (.cons (.arr 4 (.int .u64)) (.cons (.arr 4 (.int .u64)) (.cons (.arr 4 (.int .u64)) (.cons (.arr 4 (.int .u64)) .nil)))))))))))]⟩) | _, _ => none
theorem ev32 : ∀ x, evalFn env32 ann32 32 ⟨[.pl (.cons (.int .u64) (.cons (.int .u64) (.cons (.int .u64) (.cons (.arr 4 (.int .u64)) (.cons (.int .u64) (.cons (.arr 4 (.int .u64)) (.cons (.arr 4 (.int .u64)) (.cons (.int .u64) (.cons (.sl (.int .u8)) .nil))))))))), .pl (.arr 4 (.int .u64)), .pl (.arr 4 (.int .u64)), .pl (.cons (.int .u64) (.cons (.int .u64) (.cons (.int .u64) (.cons (.arr 4 (.int .u64)) (.cons (.int .u64) (.cons (.arr 4 (.int .u64)) (.cons (.int .u64) (.cons (.arr 4 (.int .u64)) (.cons (.int .u64) (.cons (.int .u64) (.cons (.int .u64) (.cons (.int .u64) .nil))))))))))))], []⟩ ⟨[.pl (.cons (.int .u64) (.cons (.int .u64) (.cons (.int .u64) (.cons (.int .u64) (.cons .bool (.cons (.arr 4 (.int .u64)) (.cons (.arr 4 (.int .u64)) (.cons (.arr 4 (.int .u64)) (.cons (.arr 4 (.int .u64)) (.cons (.arr 4 (.int .u64)) .nil)))))))))), .pl (.int .i64)], []⟩ 60 K0 x = pontageref23_Compute x := by intro x; kernel_rfl
theorem ok32 : ConOk Try.prog 32 pontageref23_ComputeC := con_of_ev (E := env32) (envOk tysOk eqsOk (show HowsOk Try.prog [(52, .con pontageref1_FromUint64C), (55, .con pontageref1_FitsC), (56, .con pontageref1_DivC), (58, .con pontageref1_AddC), (63, .con pontageref1_FromUint256C), (71, .con pontageref23_gasC), (72, .con pontageref23_tipC), (73, .con pontageref1_MulC), (74, .con pontageref1_MinC), (75, .fresh pontageref1_SubC), (76, .con pontageref1_ToUint256C)] from (And.intro ok52 (And.intro ok55 (And.intro ok56 (And.intro ok58 (And.intro ok63 (And.intro ok71 (And.intro ok72 (And.intro ok73 (And.intro ok74 (And.intro okf75 (And.intro ok76 trivial)))))))))))) follows) noOddP fun x _ h => ⟨ann32, 60, K0, (ev32 x).trans h⟩
/-- pontage/pontagelaw23.TxFeeCompute -/
noncomputable def pontagelaw23_TxFeeComputeC : Con := ⟨_, _, pontagelaw23_TxFeeCompute⟩
noncomputable def env9 : Env := mkEnv Try.prog tys eqs [(12, .con pontagelaw14_ValidParamsC), (29, .con pontagelaw23_awakeC), (30, .con pontagelaw23_buildC), (31, .con txfee_ComputeC), (32, .con pontageref23_ComputeC)]
def ann9 : Anns := fun p c => match p, c with | [1000000, 9], 3 => some (.join ⟨[.dead, .dead, .dead, .dead, .dead, .dead, .ptr 0 [], .ptr 1 [], .ptr 2 [], .ptr 3 [], .ptr 4 [], .ptr 5 [], .dead, .dead, .dead, .dead, .dead, .dead, .dead, .dead, .dead, .dead, .dead, .dead, .dead, .dead, .dead, .dead, .dead, .dead, .dead, .dead, .dead, .dead, .dead, .pl .bool, .dead, .dead, .dead, .dead, .dead, .dead, .dead, .dead, .dead, .dead, .dead, .dead, .dead, .dead, .dead, .dead, .dead, .dead, .dead, .dead, .dead, .dead, .dead, .dead, .dead, .dead, .dead, .dead, .dead, .dead, .dead, .dead, .dead, .dead, .dead, .dead, .dead, .dead, .dead, .dead, .dead, .dead, .dead, .dead, .dead, .dead, .dead, .dead, .dead, .dead, .dead, .dead, .dead, .dead, .dead, .dead, .dead, .dead, .dead, .dead, .dead, .dead, .dead, .dead, .dead, .dead], [.box (.cons (.int .u64) (.cons (.int .u64) (.cons (.int .u64) (.cons (.arr 4 (.int .u64)) (.cons (.int .u64) (.cons (.arr 4 (.int .u64)) (.cons (.arr 4 (.int .u64)) (.cons (.int .u64) (.cons (.sl (.int .u8)) .nil))))))))) (.pl (.cons (.int .u64) (.cons (.int .u64) (.cons (.int .u64) (.cons (.arr 4 (.int .u64)) (.cons (.int .u64) (.cons (.arr 4 (.int .u64)) (.cons (.arr 4 (.int .u64)) (.cons (.int .u64) (.cons (.sl (.int .u8)) .nil)))))))))), .box (.arr 4 (.int .u64)) (.pl (.arr 4 (.int .u64))), .box (.arr 4 (.int .u64)) (.pl (.arr 4 (.int .u64))), .box (.cons (.int .u64) (.cons (.int .u64) (.cons (.int .u64) (.cons (.arr 4 (.int .u64)) (.cons (.int .u64) (.cons (.arr 4 (.int .u64)) (.cons (.int .u64) (.cons (.arr 4 (.int .u64)) (.cons (.int .u64) (.cons (.int .u64) (.cons (.int .u64) (.cons (.int .u64) .nil)))))))))))) (.pl (.cons (.int .u64) (.cons (.int .u64) (.cons (.int .u64) (.cons (.arr 4 (.int .u64)) (.cons (.int .u64) (.cons (.arr 4 (.int .u64)) (.cons (.int .u64) (.cons (.arr 4 (.int .u64)) (.cons (.int .u64) (.cons (.int .u64) (.cons (.int .u64) (.cons (.int .u64) .nil))))))))))))), .box (.cons (.int .u64) (.cons (.int .u64) (.cons (.int .u64) (.cons (.int .u64) (.cons (.int .u64) (.cons (.int .u64) (.cons (.int .i64) (.cons (.sl (.int .i64)) .nil)))))))) (.pl (.cons (.int .u64) (.cons (.int .u64) (.cons (.int .u64) (.cons (.int .u64) (.cons (.int .u64) (.cons (.int .u64) (.cons (.int .i64) (.cons (.sl (.int .i64)) .nil))))))))), .box (.arr 8 (.int .u64)) (.pl (.arr 8 (.int .u64)))]⟩) | [1000000, 9], 4 => some (.join ⟨[.dead, .dead, .dead, .dead, .dead, .dead, .ptr 0 [], .ptr 1 [], .ptr 2 [], .ptr 3 [], .ptr 4 [], .ptr 5 [], .dead, .dead, .dead, .dead, .dead, .dead, .dead, .dead, .dead, .dead, .dead, .dead, .dead, .dead, .dead, .dead, .dead, .dead, .dead, .dead, .dead, .dead, .dead, .dead, .dead, .dead, .dead, .dead, .dead, .dead, .dead, .dead, .dead, .dead, .dead, .dead, .dead, .dead, .dead, .dead, .dead, .dead, .dead, .dead, .dead, .dead, .dead, .dead, .dead, .dead, .dead, .dead, .dead, .dead, .dead, .dead, .dead, .dead, .dead, .dead, .dead, .dead, .dead, .dead, .dead, .dead, .dead, .dead, .dead, .dead, .dead, .dead, .dead, .dead, .dead, .dead, .dead, .dead, .dead, .dead, .dead, .dead, .dead, .dead, .dead, .dead, .dead, .dead, .dead, .dead], [.box (.cons (.int .u64) (.cons (.int .u64) (.cons (.int .u64) (.cons (.arr 4 (.int .u64)) (.cons (.int .u64) (.cons (.arr 4 (.int .u64)) (.cons (.arr 4 (.int .u64)) (.cons (.int .u64) (.cons (.sl (.int .u8)) .nil))))))))) (.pl (.cons (.int .u64) (.cons (.int .u64) (.cons (.int .u64) (.cons (.arr 4 (.int .u64)) (.cons (.int .u64) (.cons (.arr 4 (.int .u64)) (.cons (.arr 4 (.int .u64)) (.cons (.int .u64) (.cons (.sl (.int .u8)) .nil)))))))))), .box (.arr 4 (.int .u64)) (.pl (.arr 4 (.int .u64))), .box (.arr 4 (.int .u64)) (.pl (.arr 4 (.int .u64))), .box (.cons (.int .u64) (.cons (.int .u64) (.cons (.int .u64) (.cons (.arr 4 (.int .u64)) (.cons (.int .u64) (.cons (.arr 4 (.int .u64)) (.cons (.int .u64) (.cons (.arr 4 (.int .u64)) (.cons (.int .u64) (.cons (.int .u64) (.cons (.int .u64) (.cons (.int .u64) .nil)))))))))))) (.pl (.cons (.int .u64) (.cons (.int .u64) (.cons (.int .u64) (.cons (.arr 4 (.int .u64)) (.cons (.int .u64) (.cons (.arr 4 (.int .u64)) (.cons (.int .u64) (.cons (.arr 4 (.int .u64)) (.cons (.int .u64) (.cons (.int .u64) (.cons (.int .u64) (.cons (.int .u64) .nil))))))))))))), .box (.cons (.int .u64) (.cons (.int .u64) (.cons (.int .u64) (.cons (.int .u64) (.cons (.int .u64) (.cons (.int .u64) (.cons (.int .i64) (.cons (.sl (.int .i64)) .nil)))))))) (.pl (.cons (.int .u64) (.cons (.int .u64) (.cons (.int .u64) (.cons (.int .u64) (.cons (.int .u64) (.cons (.int .u64) (.cons (.int .i64) (.cons (.sl (.int .i64)) .nil))))))))), .box (.arr 8 (.int .u64)) (.pl (.arr 8 (.int .u64)))]⟩) | [9], 0 => some (.tmpl ⟨[.dead, .dead, .dead, .dead, .dead, .dead, .ptr 0 [], .ptr 1 [], .ptr 2 [], .dead, .dead, .dead, .dead, .ptr 3 [], .ptr 4 [], .ptr 5 [], .dead, .dead, .dead, .dead, .dead, .dead, .dead, .dead, .dead, .dead, .dead, .dead, .dead, .dead, .dead, .dead, .dead, .dead, .dead, .dead, .dead, .dead, .dead, .dead, .dead, .dead, .dead, .dead, .dead, .dead, .pl (.arr 2 (.cons (.int .u64) (.cons (.int .u64) (.cons (.int .u64) (.cons (.arr 4 (.int .u64)) (.cons (.int .u64) (.cons (.arr 4 (.int .u64)) (.cons (.int .u64) (.cons (.arr 4 (.int .u64)) (.cons (.int .u64) (.cons (.int .u64) (.cons (.int .u64) (.cons (.int .u64) .nil))))))))))))), .pl (.int .i64), .dead, .dead, .dead, .dead, .dead, .dead, .dead, .dead, .dead, .dead, .dead, .dead, .dead, .dead, .dead, .dead, .dead, .dead, .dead, .dead, .dead, .dead, .dead, .dead, .dead, .dead, .dead, .dead, .dead, .dead, .dead, .dead, .dead, .dead, .dead, .dead, .dead, .dead, .dead, .dead, .dead, .dead, .dead, .dead, .dead, .dead, .dead, .dead, .dead, .dead, .dead, .dead, .dead, .dead], [.box (.cons (.int .u64) (.cons (.int .u64) (.cons (.int .u64) (.cons (.arr 4 (.int .u64)) (.cons (.int .u64) (.cons (.arr 4 (.int .u64)) (.cons (.arr 4 (.int .u64)) (.cons (.int .u64) (.cons (.sl (.int .u8)) .nil))))))))) (.pl (.cons (.int .u64) (.cons (.int .u64) (.cons (.int .u64) (.cons (.arr 4 (.int .u64)) (.cons (.int .u64) (.cons (.arr 4 (.int .u64)) (.cons (.arr 4 (.int .u64)) (.cons (.int .u64) (.cons (.sl (.int .u8)) .nil)))))))))), .box (.arr 4 (.int .u64)) (.pl (.arr 4 (.int .u64))), .box (.arr 4 (.int .u64)) (.pl (.arr 4 (.int .u64))), .box (.cons (.int .u64) (.cons (.int .u64) (.cons (.int .u64) (.cons (.arr 4 (.int .u64)) (.cons (.int .u64) (.cons (.arr 4 (.int .u64)) (.cons (.arr 4 (.int .u64)) (.cons (.int .u64) (.cons (.sl (.int .u8)) .nil))))))))) (.pl (.cons (.int .u64) (.cons (.int .u64) (.cons (.int .u64) (.cons (.arr 4 (.int .u64)) (.cons (.int .u64) (.cons (.arr 4 (.int .u64)) (.cons (.arr 4 (.int .u64)) (.cons (.int .u64) (.cons (.sl (.int .u8)) .nil)))))))))), .box (.arr 4 (.int .u64)) (.pl (.arr 4 (.int .u64))), .box (.arr 4 (.int .u64)) (.pl (.arr 4 (.int .u64)))]⟩) | _, _ => none
theorem ev9 : ∀ x, evalFn env9 ann9 9 ⟨[.pl (.cons (.int .u64) (.cons (.int .u64) (.cons (.int .u64) (.cons (.arr 4 (.int .u64)) (.cons (.int .u64) (.cons (.arr 4 (.int .u64)) (.cons (.arr 4 (.int .u64)) (.cons (.int .u64) (.cons (.sl (.int .u8)) .nil))))))))), .pl (.arr 4 (.int .u64)), .pl (.arr 4 (.int .u64)), .pl (.cons (.int .u64) (.cons (.int .u64) (.cons (.int .u64) (.cons (.arr 4 (.int .u64)) (.cons (.int .u64) (.cons (.arr 4 (.int .u64)) (.cons (.int .u64) (.cons (.arr 4 (.int .u64)) (.cons (.int .u64) (.cons (.int .u64) (.cons (.int .u64) (.cons (.int .u64) .nil)))))))))))), .pl (.cons (.int .u64) (.cons (.int .u64) (.cons (.int .u64) (.cons (.int .u64) (.cons (.int .u64) (.cons (.int .u64) (.cons (.int .i64) (.cons (.sl (.int .i64)) .nil)))))))), .pl (.arr 8 (.int .u64))], []⟩ ⟨[.pl .bool], []⟩ 60 K0 x = pontagelaw23_TxFeeCompute x := by intro x; kernel_rfl
theorem ok9 : ConOk Try.prog 9 pontagelaw23_TxFeeComputeC := con_of_ev (E := env9) (envOk tysOk eqsOk (show HowsOk Try.prog [(12, .con pontagelaw14_ValidParamsC), (29, .con pontagelaw23_awakeC), (30, .con pontagelaw23_buildC), (31, .con txfee_ComputeC), (32, .con pontageref23_ComputeC)] from (And.intro ok12 (And.intro ok29 (And.intro ok30 (And.intro ok31 (And.intro ok32 trivial)))))) follows) noOddP fun x _ h => ⟨ann9, 60, K0, (ev9 x).trans h⟩
/-- pontage/uint256.SaturatingMul -/
noncomputable def uint256_SaturatingMulC : Con := ⟨_, _, uint256_SaturatingMul⟩
noncomputable def env36 : Env := mkEnv Try.prog tys eqs [(42, .con uint256_MulC), (79, .con uint256_maxValueC)]
def ann36 : Anns := fun _ _ => none
theorem ev36 : ∀ x, evalFn env36 ann36 36 ⟨[.pl (.arr 4 (.int .u64)), .pl (.arr 4 (.int .u64))], []⟩ ⟨[.pl (.arr 4 (.int .u64))], []⟩ 60 K0 x = uint256_SaturatingMul x := by intro x; kernel_rfl
theorem ok36 : ConOk Try.prog 36 uint256_SaturatingMulC := con_of_ev (E := env36) (envOk tysOk eqsOk (show HowsOk Try.prog [(42, .con uint256_MulC), (79, .con uint256_maxValueC)] from (And.intro ok42 (And.intro ok79 trivial))) follows) noOddP fun x _ h => ⟨ann36, 60, K0, (ev36 x).trans h⟩
/-- pontage/pontagelaw23.TxFeeShares -/
noncomputable def pontagelaw23_TxFeeSharesC : Con := ⟨_, _, pontagelaw23_TxFeeShares⟩
noncomputable def env10 : Env := mkEnv Try.prog tys eqs [(12, .con pontagelaw14_ValidParamsC), (21, .con uint256_CmpC), (29, .con pontagelaw23_awakeC), (30, .con pontagelaw23_buildC), (31, .con txfee_ComputeC), (33, .con sizeest_UnitsC), (34, .con sizeest_CostC), (35, .con uint256_SaturatingSubC), (36, .con uint256_SaturatingMulC), (37, .con bips_ScaleC), (38, .con uint256_MinC), (39, .con uint256_SaturatingAddC)]
def ann10 : Anns := fun _ _ => none
theorem ev10 : ∀ x, evalFn env10 ann10 10 ⟨[.pl (.cons (.int .u64) (.cons (.int .u64) (.cons (.int .u64) (.cons (.int .u64) (.cons (.int .u64) (.cons (.int .u64) (.cons (.int .i64) (.cons (.sl (.int .i64)) .nil)))))))), .pl (.arr 8 (.int .u64))], []⟩ ⟨[.pl .bool], []⟩ 60 K0 x = pontagelaw23_TxFeeShares x := by intro x; kernel_rfl
theorem ok10 : ConOk Try.prog 10 pontagelaw23_TxFeeSharesC := con_of_ev (E := env10) (envOk tysOk eqsOk (show HowsOk Try.prog [(12, .con pontagelaw14_ValidParamsC), (21, .con uint256_CmpC), (29, .con pontagelaw23_awakeC), (30, .con pontagelaw23_buildC), (31, .con txfee_ComputeC), (33, .con sizeest_UnitsC), (34, .con sizeest_CostC), (35, .con uint256_SaturatingSubC), (36, .con uint256_SaturatingMulC), (37, .con bips_ScaleC), (38, .con uint256_MinC), (39, .con uint256_SaturatingAddC)] from (And.intro ok12 (And.intro ok21 (And.intro ok29 (And.intro ok30 (And.intro ok31 (And.intro ok33 (And.intro ok34 (And.intro ok35 (And.intro ok36 (And.intro ok37 (And.intro ok38 (And.intro ok39 trivial))))))))))))) follows) noOddP fun x _ h => ⟨ann10, 60, K0, (ev10 x).trans h⟩
/-- pontage/txfee.Total -/
noncomputable def txfee_TotalC : Con := ⟨_, _, txfee_Total⟩
noncomputable def env41 : Env := mkEnv Try.prog tys eqs [(61, .con uint256_AddC)]
def ann41 : Anns := fun p c => match p, c with | [41], 0 => some (.tmpl ⟨[.dead, .dead, .ptr 0 [], .dead, .ptr 1 [], .dead, .dead, .dead, .dead, .dead, .dead, .dead, .dead, .dead, .dead, .dead, .whole 2, .pl (.int .i64), .pl (.int .i64), .dead, .dead, .dead, .dead, .dead, .dead, .dead, .dead, .dead, .dead, .dead, .dead, .dead, .dead, .dead], [.box (.arr 4 (.int .u64)) (.pl (.arr 4 (.int .u64))), .box (.arr 4 (.int .u64)) (.pl (.arr 4 (.int .u64))), .row (.arr 4 (.int .u64))]⟩) | _, _ => none
theorem ev41 : ∀ x, evalFn env41 ann41 41 ⟨[.pl (.cons (.int .u64) (.cons (.int .u64) (.cons (.int .u64) (.cons (.int .u64) (.cons .bool (.cons (.arr 4 (.int .u64)) (.cons (.arr 4 (.int .u64)) (.cons (.arr 4 (.int .u64)) (.cons (.arr 4 (.int .u64)) (.cons (.arr 4 (.int .u64)) .nil))))))))))], []⟩ ⟨[.pl (.arr 4 (.int .u64)), .pl (.int .i64)], []⟩ 60 K0 x = txfee_Total x := by intro x; kernel_rfl
theorem ok41 : ConOk Try.prog 41 txfee_TotalC := con_of_ev (E := env41) (envOk tysOk eqsOk (show HowsOk Try.prog [(61, .con uint256_AddC)] from (And.intro ok61 trivial)) follows) noOddP fun x _ h => ⟨ann41, 60, K0, (ev41 x).trans h⟩
/-- pontage/pontagelaw23.TxFeeTotal -/
noncomputable def pontagelaw23_TxFeeTotalC : Con := ⟨_, _, pontagelaw23_TxFeeTotal⟩
noncomputable def env11 : Env := mkEnv Try.prog tys eqs [(12, .con pontagelaw14_ValidParamsC), (29, .con pontagelaw23_awakeC), (30, .con pontagelaw23_buildC), (31, .con txfee_ComputeC), (40, .con txfee_GasPriceC), (41, .con txfee_TotalC), (42, .con uint256_MulC)]
def ann11 : Anns := fun p c => match p, c with | [1000000, 11], 13 => some (.join ⟨[.dead, .dead, .dead, .dead, .dead, .ptr 0 [], .dead, .dead, .ptr 1 [], .dead, .dead, .dead, .dead, .dead, .dead, .dead, .dead, .dead, .dead, .dead, .dead, .dead, .dead, .dead, .dead, .dead, .dead, .dead, .dead, .dead, .dead, .dead, .dead, .dead, .dead, .dead, .dead, .dead, .dead, .dead, .dead, .dead, .dead, .dead, .dead, .dead, .dead, .dead, .dead, .dead, .dead, .dead, .dead, .dead, .dead, .dead, .dead, .dead, .dead, .dead, .dead, .dead, .dead, .dead, .dead, .dead, .dead, .dead, .dead, .dead, .dead, .dead, .dead, .dead, .dead, .dead, .dead, .dead, .dead, .dead, .dead, .dead, .dead, .dead, .dead, .dead, .dead, .dead, .dead, .dead, .dead, .dead, .dead, .dead, .dead, .dead, .dead, .dead, .dead, .dead, .dead, .dead, .dead, .dead, .dead, .dead, .dead, .dead, .dead, .dead, .dead, .dead, .dead, .dead, .dead, .dead, .dead, .dead, .dead, .dead, .dead, .dead, .dead, .dead, .dead, .dead], [.box (.cons (.int .u64) (.cons (.int .u64) (.cons (.int .u64) (.cons (.arr 4 (.int .u64)) (.cons (.int .u64) (.cons (.arr 4 (.int .u64)) (.cons (.arr 4 (.int .u64)) (.cons (.int .u64) (.cons (.sl (.int .u8)) .nil))))))))) (.pl (.cons (.int .u64) (.cons (.int .u64) (.cons (.int .u64) (.cons (.arr 4 (.int .u64)) (.cons (.int .u64) (.cons (.arr 4 (.int .u64)) (.cons (.arr 4 (.int .u64)) (.cons (.int .u64) (.cons (.sl (.int .u8)) .nil)))))))))), .box (.cons (.int .u64) (.cons (.int .u64) (.cons (.int .u64) (.cons (.int .u64) (.cons .bool (.cons (.arr 4 (.int .u64)) (.cons (.arr 4 (.int .u64)) (.cons (.arr 4 (.int .u64)) (.cons (.arr 4 (.int .u64)) (.cons (.arr 4 (.int .u64)) .nil)))))))))) (.pl (.cons (.int .u64) (.cons (.int .u64) (.cons (.int .u64) (.cons (.int .u64) (.cons .bool (.cons (.arr 4 (.int .u64)) (.cons (.arr 4 (.int .u64)) (.cons (.arr 4 (.int .u64)) (.cons (.arr 4 (.int .u64)) (.cons (.arr 4 (.int .u64)) .nil)))))))))))]⟩) | _, _ => none
theorem ev11 : ∀ x, evalFn env11 ann11 11 ⟨[.pl (.cons (.int .u64) (.cons (.int .u64) (.cons (.int .u64) (.cons (.int .u64) (.cons (.int .u64) (.cons (.int .u64) (.cons (.int .i64) (.cons (.sl (.int .i64)) .nil)))))))), .pl (.arr 8 (.int .u64))], []⟩ ⟨[.pl .bool], []⟩ 60 K0 x = pontagelaw23_TxFeeTotal x := by intro x; kernel_rfl
theorem ok11 : ConOk Try.prog 11 pontagelaw23_TxFeeTotalC := con_of_ev (E := env11) (envOk tysOk eqsOk (show HowsOk Try.prog [(12, .con pontagelaw14_ValidParamsC), (29, .con pontagelaw23_awakeC), (30, .con pontagelaw23_buildC), (31, .con txfee_ComputeC), (40, .con txfee_GasPriceC), (41, .con txfee_TotalC), (42, .con uint256_MulC)] from (And.intro ok12 (And.intro ok29 (And.intro ok30 (And.intro ok31 (And.intro ok40 (And.intro ok41 (And.intro ok42 trivial)))))))) follows) noOddP fun x _ h => ⟨ann11, 60, K0, (ev11 x).trans h⟩
end Sym

/- Parameters: which are valid. -/
namespace Sym
open Go

abbrev Prm : Type := I .u64 × I .u64 × I .u64 × U × I .u64 × U × I .u64 × U × I .u64 × I .u64 × I .u64 × I .u64 × Unit

def getK (p : Prm) : Nat → U
  | 1 => u64U p.1
  | 2 => u64U p.2.1
  | 3 => u64U p.2.2.1
  | 4 => p.2.2.2.1
  | 5 => u64U p.2.2.2.2.1
  | 6 => p.2.2.2.2.2.1
  | 7 => u64U p.2.2.2.2.2.2.1
  | 8 => p.2.2.2.2.2.2.2.1
  | 9 => u64U p.2.2.2.2.2.2.2.2.1
  | 10 => u64U p.2.2.2.2.2.2.2.2.2.1
  | 11 => u64U p.2.2.2.2.2.2.2.2.2.2.1
  | _ => u64U p.2.2.2.2.2.2.2.2.2.2.2.1

def loK (p : Prm) : Nat → I .u64
  | 1 => I.of .u64 1
  | 2 => I.of .u64 0
  | 3 => I.of .u64 1
  | 4 => I.of .u64 1
  | 5 => I.of .u64 1
  | 6 => I.of .u64 0
  | 7 => I.of .u64 0
  | 8 => I.of .u64 0
  | 9 => I.of .u64 1
  | 10 => I.of .u64 1
  | 11 => I.of .u64 0
  | _ => p.2.2.2.2.2.2.2.2.2.2.1

def hiK : Nat → I .u64
  | 1 => I.of .u64 1099511627776
  | 2 => I.of .u64 1048576
  | 3 => I.of .u64 1048576
  | 4 => I.of .u64 18446744073709551615
  | 5 => I.of .u64 1099511627776
  | 6 => I.of .u64 18446744073709551615
  | 7 => I.of .u64 10000
  | 8 => I.of .u64 18446744073709551615
  | 9 => I.of .u64 1099511627776
  | 10 => I.of .u64 1048576
  | 11 => I.of .u64 1048576
  | _ => I.of .u64 16777216

theorem Get_eq (p : Prm) (k : Nat) (h1 : 1 ≤ k) (h2 : k ≤ 12) : params_Get ((p, I.of .i64 (k : Int), ()), ()) = some ((getK p k, I.of .i64 0, ()), ()) := by
  match k, h1, h2 with
  | 1, _, _ => rfl
  | 2, _, _ => rfl
  | 3, _, _ => rfl
  | 4, _, _ => rfl
  | 5, _, _ => rfl
  | 6, _, _ => rfl
  | 7, _, _ => rfl
  | 8, _, _ => rfl
  | 9, _, _ => rfl
  | 10, _, _ => rfl
  | 11, _, _ => rfl
  | 12, _, _ => rfl
  | k + 13, _, h => omega

theorem bounds_eq (p : Prm) (k : Nat) (h1 : 1 ≤ k) (h2 : k ≤ 12) : params_bounds ((p, I.of .i64 (k : Int), ()), ()) = some ((loK p k, hiK k, ()), ()) := by
  match k, h1, h2 with
  | 1, _, _ => rfl
  | 2, _, _ => rfl
  | 3, _, _ => rfl
  | 4, _, _ => rfl
  | 5, _, _ => rfl
  | 6, _, _ => rfl
  | 7, _, _ => rfl
  | 8, _, _ => rfl
  | 9, _, _ => rfl
  | 10, _, _ => rfl
  | 11, _, _ => rfl
  | 12, _, _ => rfl
  | k + 13, _, h => omega

def okK (p : Prm) (k : Nat) : Bool := decide ((loK p k).nat ≤ (getK p k).val ∧ (getK p k).val ≤ (hiK k).nat)

/-- The first key that is not right, from k on, n keys. -/
def fiF (p : Prm) : Nat → Nat → I .i64
  | 0, _ => I.of .i64 0
  | n + 1, k => if okK p k = true then fiF p n (k + 1) else I.of .i64 (k : Int)

def fiS (p : Prm) : I .i64 := fiF p 12 1

theorem cmp_ltb (a b : U) : I.ltb (cmpS a b) (I.of .i64 0) = decide (a.val < b.val) := by
  unfold cmpS
  by_cases h : a.val < b.val
  · rw [if_pos h]; simp [h]; rfl
  · rw [if_neg h]
    by_cases h2 : b.val < a.val
    · rw [if_pos h2]; simp [h]; rfl
    · rw [if_neg h2]; simp [h]; rfl

theorem cmp_gtb (a b : U) : I.ltb (I.of .i64 0) (cmpS a b) = decide (b.val < a.val) := by
  unfold cmpS
  by_cases h : a.val < b.val
  · rw [if_pos h]; simp [show ¬ b.val < a.val by omega]; rfl
  · rw [if_neg h]
    by_cases h2 : b.val < a.val
    · rw [if_pos h2]; simp [h2]; rfl
    · rw [if_neg h2]; simp [h2]; rfl

theorem FirstInvalid_eq (p : Prm) : params_FirstInvalid ((p, ()), ()) = some ((fiS p, ()), ()) := by
  refine Wp.out (T := fun o => o = some ((fiS p, ()), ())) ?_
  unfold params_FirstInvalid
  refine Wp.iter (Inv := fun x => ∃ k : Nat, 1 ≤ k ∧ k ≤ 13 ∧ x = ((I.of .i64 (k : Int), ()), (p, ())) ∧ fiF p (13 - k) k = fiS p) (fun x => 14 - x.1.1.val.toNat) ?_ ⟨1, by omega, by omega, rfl, rfl⟩ ?_
  · rintro x ⟨k, hk1, hk2, rfl, hf⟩
    have hkv : (I.of .i64 (k : Int)).val = k := of_i64 ⟨by omega, by omega⟩
    refine Wp.brn (fun hc => ?_) (fun hc => ?_)
    · rw [iff_leb] at hc
      replace hc : (I.of .i64 (k : Int)).val ≤ 12 := hc
      have hk : k ≤ 12 := by omega
      refine Wp.optF (Get_eq p k hk1 hk) (Wp.optF (bounds_eq p k hk1 hk) (Wp.optF (u256_FromUint64 _) (Wp.optF (uint256_Cmp_eq _ _) ?_)))
      obtain ⟨n, hn⟩ : ∃ n, 13 - k = n + 1 := ⟨12 - k, by omega⟩
      rw [hn] at hf
      have hf' : (if okK p k = true then fiF p n (k + 1) else I.of .i64 (k : Int)) = fiS p := hf
      refine Wp.brn (fun h1 => ?_) (fun h1 => ?_)
      · rw [cmp_ltb] at h1
        replace h1 := of_decide_eq_true h1
        refine Wp.done ?_
        rw [if_neg (by unfold okK; rw [u64U_val] at h1; simp; intro h; omega)] at hf'
        show some ((I.of .i64 (k : Int), ()), ()) = _
        rw [hf']
      · rw [cmp_ltb] at h1
        replace h1 := of_decide_eq_false h1
        refine Wp.optF (u256_FromUint64 _) (Wp.optF (uint256_Cmp_eq _ _) ?_)
        refine Wp.brn (fun h2 => ?_) (fun h2 => ?_)
        · rw [cmp_gtb] at h2
          replace h2 := of_decide_eq_true h2
          refine Wp.done ?_
          rw [if_neg (by unfold okK; rw [u64U_val] at h2; simp; intro h; exact h2)] at hf'
          show some ((I.of .i64 (k : Int), ()), ()) = _
          rw [hf']
        · rw [cmp_gtb] at h2
          replace h2 := of_decide_eq_false h2
          rw [u64U_val] at h1 h2
          rw [if_pos (by unfold okK; simp; omega)] at hf'
          have hv2 : (I.of .i64 ((k + 1 : Nat) : Int)).val = ((k + 1 : Nat) : Int) := of_i64 ⟨by omega, by omega⟩
          have ha : I.add (I.of .i64 (k : Int)) (I.of .i64 1) = I.of .i64 ((k + 1 : Nat) : Int) := by
            apply I.ext'
            rw [add_i64 (by rw [hkv]; show _ ≤ (k : Int) + 1 ∧ (k : Int) + 1 < _; omega), hkv, hv2]
            show (k : Int) + 1 = ((k + 1 : Nat) : Int)
            omega
          refine Wp.again ⟨k + 1, by omega, by omega, ?_, ?_⟩ ?_
          · show ((I.add (I.of .i64 (k : Int)) (I.of .i64 1), ()), (p, ())) = _
            rw [ha]
          · rw [show 13 - (k + 1) = n by omega]; exact hf'
          · show 14 - (I.add (I.of .i64 (k : Int)) (I.of .i64 1)).val.toNat < 14 - (I.of .i64 (k : Int)).val.toNat
            rw [ha, hkv, hv2]
            omega
    · rw [niff_leb] at hc
      replace hc : 12 < (I.of .i64 (k : Int)).val := hc
      have hk : k = 13 := by omega
      subst hk
      refine Wp.done ?_
      show some ((I.of .i64 0, ()), ()) = _
      rw [← hf]; rfl
  · show 14 - (1 : Int).toNat < K0
    rw [K0_eq]; decide

theorem in_eq (a b c : I .u64) : pontageref12_in ((a, b, c, ()), ()) = some ((decide (b.nat ≤ a.nat ∧ a.nat ≤ c.nat), ()), ()) := by
  have ha := nat_val a
  have hb := nat_val b
  have hc := nat_val c
  refine Wp.out (T := fun o => o = some ((decide (b.nat ≤ a.nat ∧ a.nat ≤ c.nat), ()), ())) ?_
  unfold pontageref12_in
  refine Wp.brn (fun h => ?_) (fun h => ?_)
  · rw [iff_leb] at h
    show some ((I.leb a c, ()), ()) = _
    have : I.leb a c = decide (b.nat ≤ a.nat ∧ a.nat ≤ c.nat) := by
      by_cases h2 : a.nat ≤ c.nat
      · rw [decide_eq_true (by omega), iff_leb]; omega
      · rw [decide_eq_false (by omega), niff_leb]; omega
    rw [this]
  · rw [niff_leb] at h
    show some ((false, ()), ()) = _
    rw [decide_eq_false (by omega)]

theorem Uint64_eq (a : U) : pontageref1_Uint64 ((a, ()), ()) = some (if a.val < 18446744073709551616 then ((a.1, true, ()), ()) else ((I.of .u64 0, false, ()), ())) := by
  refine Wp.out (T := fun o => o = some (if a.val < 18446744073709551616 then ((a.1, true, ()), ()) else ((I.of .u64 0, false, ()), ()))) ?_
  have h0 := nat_lt a.1
  have n1 := nat_val a.2.1
  have n2 := nat_val a.2.2.1
  have n3 := nat_val a.2.2.2.1
  have hv : a.val = a.1.nat + 18446744073709551616 * (a.2.1.nat + 18446744073709551616 * (a.2.2.1.nat + 18446744073709551616 * a.2.2.2.1.nat)) := rfl
  have e0 : (I.of .u64 0).val = 0 := rfl
  unfold pontageref1_Uint64
  refine Wp.brn (fun h => ?_) (fun h => ?_)
  · rw [iff_neb, e0] at h; replace h : a.2.1.val ≠ 0 := h
    show some ((I.of .u64 0, false, ()), ()) = _
    rw [if_neg (by omega)]
  · rw [niff_neb, e0] at h; replace h : a.2.1.val = 0 := h
    refine Wp.brn (fun h2 => ?_) (fun h2 => ?_)
    · rw [iff_neb, e0] at h2; replace h2 : a.2.2.1.val ≠ 0 := h2
      show some ((I.of .u64 0, false, ()), ()) = _
      rw [if_neg (by omega)]
    · rw [niff_neb, e0] at h2; replace h2 : a.2.2.1.val = 0 := h2
      refine Wp.brn (fun h3 => ?_) (fun h3 => ?_)
      · rw [iff_neb, e0] at h3; replace h3 : a.2.2.2.1.val ≠ 0 := h3
        show some ((I.of .u64 0, false, ()), ()) = _
        rw [if_neg (by omega)]
      · rw [niff_neb, e0] at h3; replace h3 : a.2.2.2.1.val = 0 := h3
        show some ((a.1, true, ()), ()) = _
        rw [if_pos (by omega)]

theorem atLeast_eq (a : U) (b : I .u64) : pontageref12_atLeast ((a, b, ()), ()) = some ((decide (b.nat ≤ a.val ∧ a.val ≤ 18446744073709551615), ()), ()) := by
  refine Wp.out (T := fun o => o = some ((decide (b.nat ≤ a.val ∧ a.val ≤ 18446744073709551615), ()), ())) ?_
  have hb := nat_val b
  have h0 := nat_val a.1
  have h0' := nat_lt a.1
  have hv : a.val = a.1.nat + 18446744073709551616 * (a.2.1.nat + 18446744073709551616 * (a.2.2.1.nat + 18446744073709551616 * a.2.2.2.1.nat)) := rfl
  unfold pontageref12_atLeast
  refine Wp.optF (Uint64_eq a) ?_
  by_cases h : a.val < 18446744073709551616
  · rw [if_pos h]
    refine Wp.brnT rfl ?_
    show some ((I.leb b a.1, ()), ()) = _
    have : I.leb b a.1 = decide (b.nat ≤ a.val ∧ a.val ≤ 18446744073709551615) := by
      by_cases h2 : b.nat ≤ a.1.nat
      · rw [decide_eq_true (by omega), iff_leb]; omega
      · rw [decide_eq_false (by omega), niff_leb]; omega
    rw [this]
  · rw [if_neg h]
    refine Wp.brnF rfl ?_
    show some ((false, ()), ()) = _
    rw [decide_eq_false (by omega)]

theorem in_u (a b c : I .u64) : pontageref12_in ((a, b, c, ()), ()) = some ((decide (b.nat ≤ (u64U a).val ∧ (u64U a).val ≤ c.nat), ()), ()) := by
  rw [in_eq, u64U_val]

theorem brn_if {R : Type} (b : Bool) (x y : R) : brn (bnot b) x y = if b = true then y else x := by cases b <;> rfl

theorem RFirstInvalid_eq (p : Prm) : pontageref12_FirstInvalid ((p, ()), ()) = some ((fiS p, ()), ()) := by
  refine Wp.out (T := fun o => o = some ((fiS p, ()), ())) ?_
  unfold pontageref12_FirstInvalid
  refine Wp.optF (in_u _ _ _) (Wp.optF (in_u _ _ _) (Wp.optF (in_u _ _ _) (Wp.optF (atLeast_eq _ _) (Wp.optF (in_u _ _ _) (Wp.optF (atLeast_eq _ _) (Wp.optF (in_u _ _ _) (Wp.optF (atLeast_eq _ _) (Wp.optF (in_u _ _ _) (Wp.optF (in_u _ _ _) (Wp.optF (in_u _ _ _) (Wp.optF (in_u _ _ _) ?_)))))))))))
  have step : ∀ (n k : Nat) (r : Option (((I .i64) × Unit) × Unit)), r = some ((fiF p n (k + 1), ()), ()) → brn (bnot (okK p k)) (some ((I.of .i64 (k : Int), ()), ())) r = some ((fiF p (n + 1) k, ()), ()) := by
    intro n k r hr
    rw [brn_if, hr]
    show _ = some ((if okK p k = true then fiF p n (k + 1) else I.of .i64 (k : Int), ()), ())
    split <;> rfl
  exact step 11 1 _ (step 10 2 _ (step 9 3 _ (step 8 4 _ (step 7 5 _ (step 6 6 _ (step 5 7 _ (step 4 8 _ (step 3 9 _ (step 2 10 _ (step 1 11 _ (step 0 12 _ rfl)))))))))))

def validP (p : Prm) : Bool := I.eqb (fiS p) (I.of .i64 0)

theorem PValid_eq (p : Prm) : params_Valid ((p, ()), ()) = some ((validP p, ()), ()) := by
  refine Wp.out (T := fun o => o = some ((validP p, ()), ())) ?_
  unfold params_Valid
  exact Wp.optF (FirstInvalid_eq p) rfl

theorem RPValid_eq (p : Prm) : pontageref12_Valid ((p, ()), ()) = some ((validP p, ()), ()) := by
  refine Wp.out (T := fun o => o = some ((validP p, ()), ())) ?_
  unfold pontageref12_Valid
  exact Wp.optF (RFirstInvalid_eq p) rfl

theorem fiF_zero (p : Prm) : ∀ (n k : Nat), 1 ≤ k → k + n ≤ 14 → (I.eqb (fiF p n k) (I.of .i64 0) = true ↔ ∀ j, k ≤ j → j < k + n → okK p j = true)
  | 0, k, h1, h2 => ⟨fun _ j _ _ => by omega, fun _ => rfl⟩
  | n + 1, k, h1, h2 => by
    show I.eqb (if okK p k = true then fiF p n (k + 1) else I.of .i64 (k : Int)) (I.of .i64 0) = true ↔ _
    by_cases h : okK p k = true
    · rw [if_pos h, fiF_zero p n (k + 1) (by omega) (by omega)]
      constructor
      · intro hj j h3 h4
        by_cases hjk : j = k
        · subst hjk; exact h
        · exact hj j (by omega) (by omega)
      · intro hj j h3 h4
        exact hj j (by omega) (by omega)
    · rw [if_neg h, iff_eqb, of_i64 ⟨by omega, by omega⟩]
      constructor
      · intro h3
        replace h3 : (k : Int) = 0 := h3
        omega
      · intro hj
        exact absurd (hj k (by omega) (by omega)) h

theorem validP_iff (p : Prm) : validP p = true ↔ ∀ j, 1 ≤ j → j < 13 → okK p j = true := fiF_zero p 12 1 (by omega) (by omega)

/-- What the divisions rest on. -/
theorem validP_div {p : Prm} (h : validP p = true) : 1 ≤ p.2.2.2.2.2.2.2.2.1.nat ∧ p.2.2.2.2.2.2.2.2.1.nat ≤ 1099511627776 ∧ 1 ≤ p.2.2.2.2.2.2.2.2.2.1.nat := by
  rw [validP_iff] at h
  have h9 := of_decide_eq_true (h 9 (by omega) (by omega))
  have h10 := of_decide_eq_true (h 10 (by omega) (by omega))
  replace h9 : (I.of .u64 1).nat ≤ (u64U p.2.2.2.2.2.2.2.2.1).val ∧ (u64U p.2.2.2.2.2.2.2.2.1).val ≤ (I.of .u64 1099511627776).nat := h9
  replace h10 : (I.of .u64 1).nat ≤ (u64U p.2.2.2.2.2.2.2.2.2.1).val ∧ (u64U p.2.2.2.2.2.2.2.2.2.1).val ≤ (I.of .u64 1048576).nat := h10
  rw [u64U_val] at h9 h10
  have e1 : (I.of .u64 1).nat = 1 := rfl
  have e2 : (I.of .u64 1099511627776).nat = 1099511627776 := rfl
  rw [e1] at h9 h10
  rw [e2] at h9
  exact ⟨h9.1, h9.2, h10.1⟩
end Sym

/- The price of a unit: what the program computes. -/
namespace Sym
open Go

theorem SatAdd_eq (a b : U) : uint256_SaturatingAdd ((a, b, ()), ()) = some ((U.of (min (a.val + b.val) (U.top - 1)), ()), ()) := by
  refine Wp.out (T := fun o => o = some ((U.of (min (a.val + b.val) (U.top - 1)), ()), ())) ?_
  unfold uint256_SaturatingAdd
  refine Wp.optF (uint256_Add_eq a b) ?_
  unfold addS
  have ha := a.lt
  by_cases h : a.val + b.val < U.top
  · rw [if_pos h]
    refine Wp.brnT rfl ?_
    show _ = _
    rw [Nat.min_eq_left (by omega)]
    rfl
  · rw [if_neg h]
    refine Wp.brnF rfl ?_
    refine Wp.optF rfl ?_
    show _ = _
    rw [Nat.min_eq_right (by omega)]
    kernel_rfl

theorem DivFloor_u {z : Int} (d : U) (hz : z.natAbs < U.top) (hd : d.val ≠ 0) : int256_DivFloor ((S.of z, d, ()), ()) = some ((S.of (z / (d.val : Int)), I.of .i64 0, ()), ()) := by
  have := DivFloor_eq (S.of z) d
  unfold divFS at this
  rw [S.of_valid hz, if_pos rfl, if_neg hd, S.int_of hz] at this
  exact this

theorem DivFloor_i {z : Int} (c : I .u64) (hz : z.natAbs < U.top) (hc : c.nat ≠ 0) : int256_DivFloor ((S.of z, u64U c, ()), ()) = some ((S.of (z / (c.nat : Int)), I.of .i64 0, ()), ()) := by
  have := DivFloor_u (u64U c) hz (by rw [u64U_val]; exact hc)
  rw [u64U_val] at this
  exact this

theorem SSub_i {z w : Int} (hz : z.natAbs < U.top) (hw : w.natAbs < U.top) : int256_Sub ((S.of z, S.of w, ()), ()) = some (((resS (z - w)).1, (resS (z - w)).2, ()), ()) := by
  have := SSub_t (S.of_valid hz) (S.of_valid hw)
  rw [S.int_of hz, S.int_of hw] at this
  exact this

theorem SMul_i {z w : Int} (hz : z.natAbs < U.top) (hw : w.natAbs < U.top) : int256_Mul ((S.of z, S.of w, ()), ()) = some (((resS (z * w)).1, (resS (z * w)).2, ()), ()) := by
  have := SMul_t (S.of_valid hz) (S.of_valid hw)
  rw [S.int_of hz, S.int_of hw] at this
  exact this

theorem posS (c : I .u64) : ((false, u64U c, ()) : S) = S.of (c.nat : Int) := by
  have h : S.of (S.int (false, u64U c, ())) = (false, u64U c, ()) := S.of_int rfl
  have h2 : S.int (false, u64U c, ()) = (c.nat : Int) := by
    show (((u64U c).val : Nat) : Int) = _
    rw [u64U_val]
  rw [← h, h2]

theorem quo_nat (a b : I .u64) : (I.quo a b).nat = a.nat / b.nat := by
  have h : ((I.quo a b).nat : Int) = ((a.nat / b.nat : Nat) : Int) := by
    rw [nat_val, quo_u64, ← nat_val a, ← nat_val b]
    exact (Int.natCast_ediv _ _).symm
  exact Int.ofNat_inj.1 h

/-- The change of the price, by whole numbers. -/
def deltaZ (n o : Int) (u E J : Nat) : S × I .i64 :=
  if (n - o).natAbs < U.top then
    if (-n / (E : Int) - (n - o) / (u : Int)).natAbs < U.top then
      if ((-n / (E : Int) - (n - o) / (u : Int)) * (u : Int)).natAbs < U.top then (S.of ((-n / (E : Int) - (n - o) / (u : Int)) * (u : Int) / ((E / J + u : Nat) : Int)), I.of .i64 0)
      else (S.of 0, I.of .i64 4)
    else (S.of 0, I.of .i64 4)
  else (S.of 0, I.of .i64 4)

theorem bnot_t {c : Bool} (h : bnot c = true) : c = false := by
  cases c
  · rfl
  · cases h
theorem bnot_f {c : Bool} (h : bnot c = false) : c = true := by
  cases c
  · cases h
  · rfl


def Prm.eq (p : Prm) : I .u64 := p.2.2.2.2.2.2.2.2.1
def Prm.inertia (p : Prm) : I .u64 := p.2.2.2.2.2.2.2.2.2.1

def deltaS (a b : S) (u : I .u64) (p : Prm) : S × I .i64 :=
  if validP p = true then
    if validB a = true then
      if validB b = true then
        if u.nat = 0 then (S.of 0, I.of .i64 2)
        else deltaZ a.int b.int u.nat (Prm.eq p).nat (Prm.inertia p).nat
      else (S.of 0, I.of .i64 2)
    else (S.of 0, I.of .i64 2)
  else (S.of 0, I.of .i64 15)

theorem deltaS_t {a b : S} {u : I .u64} {p : Prm} (hp : validP p = true) (ha : validB a = true) (hb : validB b = true) (hu : u.nat ≠ 0) : deltaS a b u p = deltaZ a.int b.int u.nat (Prm.eq p).nat (Prm.inertia p).nat := by
  unfold deltaS
  rw [if_pos hp, if_pos ha, if_pos hb, if_neg hu]

theorem u64_zero (u : I .u64) : I.eqb u (I.of .u64 0) = true ↔ u.nat = 0 := by
  rw [iff_eqb]
  have := nat_val u
  have e0 : (I.of .u64 0).val = 0 := rfl
  omega

theorem Delta_eq (a b : S) (u : I .u64) (p : Prm) : l1price_Delta ((a, b, u, p, ()), ()) = some (((deltaS a b u p).1, (deltaS a b u p).2, ()), ()) := by
  refine Wp.out (T := fun o => o = some (((deltaS a b u p).1, (deltaS a b u p).2, ()), ())) ?_
  unfold l1price_Delta
  refine Wp.jn (fun s => s.1.1 = u ∧ s.2.1 = a ∧ s.2.2.1 = b ∧ s.2.2.2.1 = p ∧ validP p = true ∧ validB a = true ∧ validB b = true ∧ u.nat ≠ 0) ?_ ?_
  · rintro ⟨⟨u', ⟨⟩⟩, a', b', p', z', ⟨⟩⟩ ⟨e0, e1, e2, e3, hp, ha, hb, hu⟩
    simp only at e0 e1 e2 e3
    subst e0 e1 e2 e3
    obtain ⟨hE1, hE2, hJ⟩ : 1 ≤ (Prm.eq p').nat ∧ (Prm.eq p').nat ≤ 1099511627776 ∧ 1 ≤ (Prm.inertia p').nat := validP_div hp
    rw [deltaS_t hp ha hb hu]
    have hx := S.lt a'
    have hy := S.lt b'
    have hxn : (-S.int a').natAbs < U.top := by omega
    refine Wp.optF (Neg_t ha) (Wp.optF (u256_FromUint64 _) ?_)
    refine Wp.optF (DivFloor_i (Prm.eq p') hxn (by omega)) ?_
    have hq := floor_abs (-S.int a') (Prm.eq p').nat (by omega)
    refine Wp.optF (SSub_t (x := a') (y := b') ha hb) ?_
    unfold deltaZ
    by_cases h1 : (S.int a' - S.int b').natAbs < U.top
    · rw [resS_lt h1, if_pos h1]
      refine Wp.brnF rfl (Wp.optF (u256_FromUint64 _) ?_)
      refine Wp.optF (DivFloor_i u' h1 hu) ?_
      have hq2 := floor_abs (S.int a' - S.int b') u'.nat hu
      refine Wp.optF (SSub_i (z := -S.int a' / ((Prm.eq p').nat : Int)) (w := (S.int a' - S.int b') / (u'.nat : Int)) (by omega) (by omega)) ?_
      generalize hd : -S.int a' / ((Prm.eq p').nat : Int) - (S.int a' - S.int b') / (u'.nat : Int) = d
      by_cases h2 : d.natAbs < U.top
      · rw [resS_lt h2, if_pos h2]
        refine Wp.brnF rfl (Wp.optF (u256_FromUint64 _) ?_)
        have hun := top_u64 u'
        have hm := SMul_i (z := d) (w := (u'.nat : Int)) h2 (by omega)
        rw [← posS] at hm
        refine Wp.optF hm ?_
        by_cases h3 : (d * (u'.nat : Int)).natAbs < U.top
        · rw [resS_lt h3, if_pos h3]
          refine Wp.brnF rfl ?_
          refine Wp.brnT ?_ ?_
          · rw [iff_nz]
            have := nat_val (Prm.inertia p')
            show (Prm.inertia p').val ≠ 0
            omega
          refine Wp.optF (u256_FromUint64 _) (Wp.optF (u256_FromUint64 _) (Wp.optF (SatAdd_eq (u64U (I.quo (Prm.eq p') (Prm.inertia p'))) (u64U u')) ?_))
          have hn1 := nat_lt (I.quo (Prm.eq p') (Prm.inertia p'))
          have hn2 := nat_lt u'
          have hsum : (U.of (min ((u64U (I.quo (Prm.eq p') (Prm.inertia p'))).val + (u64U u').val) (U.top - 1))).val = (Prm.eq p').nat / (Prm.inertia p').nat + u'.nat := by
            rw [u64U_val, u64U_val, Nat.min_eq_left (by unfold U.top; omega), U.val_of (by unfold U.top; omega), quo_nat]
          refine Wp.optF (DivFloor_u (U.of (min ((u64U (I.quo (Prm.eq p') (Prm.inertia p'))).val + (u64U u').val) (U.top - 1))) h3 (by rw [hsum]; exact Nat.ne_of_gt (Nat.lt_of_lt_of_le (Nat.pos_of_ne_zero hu) (Nat.le_add_left _ _)))) ?_
          rw [hsum]
          rfl
        · rw [resS_ge (by omega), if_neg h3]
          exact Wp.brnT rfl rfl
      · rw [resS_ge (by omega), if_neg h2]
        exact Wp.brnT rfl rfl
    · rw [resS_ge (by omega), if_neg h1]
      exact Wp.brnT rfl rfl
  · intro j hj
    refine Wp.optF (PValid_eq p) ?_
    refine Wp.brn (fun h => ?_) (fun h => ?_)
    · have hp : validP p = false := bnot_t h
      unfold deltaS
      rw [hp]
      rfl
    · have hp : validP p = true := bnot_f h
      refine Wp.optF (Valid_eq a) ?_
      refine Wp.brn (fun h => ?_) (fun h => ?_)
      · have ha : validB a = false := bnot_t h
        unfold deltaS
        rw [if_pos hp, ha]
        rfl
      · have ha : validB a = true := bnot_f h
        refine Wp.optF (Valid_eq b) ?_
        refine Wp.brn (fun h => ?_) (fun h => ?_)
        · have hb : validB b = false := bnot_t h
          unfold deltaS
          rw [if_pos hp, if_pos ha, hb]
          rfl
        · have hb : validB b = true := bnot_f h
          refine Wp.brn (fun h => ?_) (fun h => ?_)
          · have hu := (u64_zero u).1 h
            unfold deltaS
            rw [if_pos hp, if_pos ha, if_pos hb, if_pos hu]
            rfl
          · have hu : u.nat ≠ 0 := fun h0 => by
              rw [(u64_zero u).2 h0] at h; cases h
            exact hj _ ⟨rfl, rfl, rfl, rfl, hp, ha, hb, hu⟩

/-- The next price. -/
def nextS (c : U) (a b : S) (u : I .u64) (p : Prm) : U × I .i64 :=
  if validP p = true then
    if validB a = true then
      if validB b = true then
        if u.nat = 0 then (c, I.of .i64 0)
        else if I.neb (deltaS a b u p).2 (I.of .i64 0) = true then (U.of 0, (deltaS a b u p).2) else clampS c (deltaS a b u p).1
      else (U.of 0, I.of .i64 2)
    else (U.of 0, I.of .i64 2)
  else (U.of 0, I.of .i64 15)

theorem Next_eq (c : U) (a b : S) (u : I .u64) (p : Prm) : l1price_Next ((c, a, b, u, p, ()), ()) = some (((nextS c a b u p).1, (nextS c a b u p).2, ()), ()) := by
  refine Wp.out (T := fun o => o = some (((nextS c a b u p).1, (nextS c a b u p).2, ()), ())) ?_
  unfold l1price_Next
  refine Wp.jn (fun s => s.1.1 = u ∧ s.2.1 = c ∧ s.2.2.1 = a ∧ s.2.2.2.1 = b ∧ s.2.2.2.2.1 = p ∧ validP p = true ∧ validB a = true ∧ validB b = true ∧ u.nat ≠ 0) ?_ ?_
  · rintro ⟨⟨u', ⟨⟩⟩, c', a', b', p', z', ⟨⟩⟩ ⟨e0, e1, e2, e3, e4, hp, ha, hb, hu⟩
    simp only at e0 e1 e2 e3 e4
    subst e0 e1 e2 e3 e4
    refine Wp.optF (Delta_eq _ _ _ _) ?_
    unfold nextS
    rw [if_pos hp, if_pos ha, if_pos hb, if_neg hu]
    refine Wp.brn (fun h => ?_) (fun h => ?_)
    · rw [if_pos h]
      rfl
    · rw [if_neg (by rw [h]; decide)]
      exact Wp.optF (AddClamped_eq _ _) rfl
  · intro j hj
    refine Wp.optF (PValid_eq p) ?_
    refine Wp.brn (fun h => ?_) (fun h => ?_)
    · have hp : validP p = false := bnot_t h
      unfold nextS
      rw [hp]
      rfl
    · have hp : validP p = true := bnot_f h
      refine Wp.jn (fun s => s.1.1 = u ∧ s.1.2.1 = (!(validB a && validB b)) ∧ s.2.1 = c ∧ s.2.2.1 = a ∧ s.2.2.2.1 = b ∧ s.2.2.2.2.1 = p) ?_ ?_
      · rintro ⟨⟨u', v', ⟨⟩⟩, c', a', b', p', z', ⟨⟩⟩ ⟨e0, e00, e1, e2, e3, e4⟩
        simp only at e0 e00 e1 e2 e3 e4
        subst e0 e00 e1 e2 e3 e4
        refine Wp.brn (fun h => ?_) (fun h => ?_)
        · replace h : (!(validB a' && validB b')) = true := h
          unfold nextS
          rw [if_pos hp]
          by_cases ha : validB a' = true
          · rw [if_pos ha]
            have hb : validB b' = false := by rw [ha] at h; simpa using h
            rw [hb]
            rfl
          · rw [if_neg ha]
            rfl
        · replace h : (!(validB a' && validB b')) = false := h
          have hab : validB a' = true ∧ validB b' = true := by simpa using h
          refine Wp.brn (fun h => ?_) (fun h => ?_)
          · have hu := (u64_zero u').1 h
            unfold nextS
            rw [if_pos hp, if_pos hab.1, if_pos hab.2, if_pos hu]
            rfl
          · have hu : u'.nat ≠ 0 := fun h0 => by
              rw [(u64_zero u').2 h0] at h; cases h
            exact hj _ ⟨rfl, rfl, rfl, rfl, rfl, hp, hab.1, hab.2, hu⟩
      · intro j2 hj2
        refine Wp.optF (Valid_eq a) ?_
        refine Wp.brn (fun h => ?_) (fun h => ?_)
        · have ha : validB a = false := bnot_t h
          exact hj2 _ ⟨rfl, by rw [ha]; rfl, rfl, rfl, rfl, rfl⟩
        · have ha : validB a = true := bnot_f h
          refine Wp.optF (Valid_eq b) ?_
          exact hj2 _ ⟨rfl, by rw [ha]; rfl, rfl, rfl, rfl, rfl⟩
end Sym

/- The price of a unit: the laws over valid parameters. -/
namespace Sym
open Go

def genP : Prm := (I.of .u64 7000000, I.of .u64 10, I.of .u64 102, u64U (I.of .u64 100000000), I.of .u64 32000000, u64U (I.of .u64 60000000), I.of .u64 1000, u64U (I.of .u64 10), I.of .u64 160000000, I.of .u64 10, I.of .u64 16, I.of .u64 65536, ())

theorem Genesis_eq : params_Genesis ((), ()) = some ((genP, ()), ()) := by kernel_rfl

theorem genP_valid : validP genP = true := by kernel_rfl

theorem zd : deltaZ (-160000000) 0 16000000 160000000 10 = (S.of 5, I.of .i64 0) := by
  unfold deltaZ
  rw [if_pos (by decide), if_pos (by decide), if_pos (by decide)]
  exact congrArg (fun z => (S.of z, I.of .i64 0)) (by decide)

theorem awake19 : pontagelaw19_awake ((), ()) = some ((true, ()), ()) := by
  refine Wp.out (T := fun o => o = some ((true, ()), ())) ?_
  unfold pontagelaw19_awake
  have a1 : (-160000000 : Int).natAbs < U.top := by decide
  have a0 : (0 : Int).natAbs < U.top := by decide
  have hd : deltaS (S.of (-160000000)) (S.of 0) (I.of .u64 16000000) genP = (S.of 5, I.of .i64 0) := by
    rw [deltaS_t genP_valid (S.of_valid a1) (S.of_valid a0) (by decide), S.int_of a1, S.int_of a0]
    exact zd
  have e1 : int256_FromInt64 ((I.of .i64 (-160000000), ()), ()) = some ((S.of (-160000000), ()), ()) := by
    have := SFrom_eq (I.of .i64 (-160000000))
    rw [show (I.of .i64 (-160000000)).val = -160000000 from of_i64 (by omega)] at this
    exact this
  have e2 : int256_FromInt64 ((I.of .i64 0, ()), ()) = some ((S.of 0, ()), ()) := SFrom_eq (I.of .i64 0)
  have e3 : int256_FromInt64 ((I.of .i64 5, ()), ()) = some ((S.of 5, ()), ()) := by
    have := SFrom_eq (I.of .i64 5)
    rw [show (I.of .i64 5).val = 5 from of_i64 (by omega)] at this
    exact this
  refine Wp.optF e1 (Wp.optF e2 (Wp.optF Genesis_eq ?_))
  refine Wp.optF (Delta_eq (S.of (-160000000)) (S.of 0) (I.of .u64 16000000) genP) ?_
  rw [hd]
  refine Wp.optF e3 (Wp.optF e3 (Wp.optF Genesis_eq ?_))
  refine Wp.optF (Next_eq (u64U (I.of .u64 3)) (S.of 5) (S.of 5) (I.of .u64 0) genP) ?_
  have hn : nextS (u64U (I.of .u64 3)) (S.of 5) (S.of 5) (I.of .u64 0) genP = (u64U (I.of .u64 3), I.of .i64 0) := by
    unfold nextS
    have h5 : validB (S.of 5) = true := S.of_valid (by decide)
    have h0 : (I.of .u64 0).nat = 0 := rfl
    rw [if_pos genP_valid, if_pos h5, if_pos h5, if_pos h0]
  rw [hn]
  refine Wp.optF e3 ?_
  refine Wp.brnT (eqbS_self _) (Wp.brnT rfl (Wp.brnT (eqb_self' _) rfl))

theorem validP_of (p : Prm) (h1 : 1 ≤ p.1.nat ∧ p.1.nat ≤ 1099511627776) (h2 : p.2.1.nat ≤ 1048576) (h3 : 1 ≤ p.2.2.1.nat ∧ p.2.2.1.nat ≤ 1048576) (h4 : 1 ≤ U.val p.2.2.2.1 ∧ U.val p.2.2.2.1 ≤ 18446744073709551615) (h5 : 1 ≤ p.2.2.2.2.1.nat ∧ p.2.2.2.2.1.nat ≤ 1099511627776) (h6 : U.val p.2.2.2.2.2.1 ≤ 18446744073709551615) (h7 : p.2.2.2.2.2.2.1.nat ≤ 10000) (h8 : U.val p.2.2.2.2.2.2.2.1 ≤ 18446744073709551615) (h9 : 1 ≤ p.2.2.2.2.2.2.2.2.1.nat ∧ p.2.2.2.2.2.2.2.2.1.nat ≤ 1099511627776) (h10 : 1 ≤ p.2.2.2.2.2.2.2.2.2.1.nat ∧ p.2.2.2.2.2.2.2.2.2.1.nat ≤ 1048576) (h11 : p.2.2.2.2.2.2.2.2.2.2.1.nat ≤ 1048576) (h12 : p.2.2.2.2.2.2.2.2.2.2.1.nat ≤ p.2.2.2.2.2.2.2.2.2.2.2.1.nat ∧ p.2.2.2.2.2.2.2.2.2.2.2.1.nat ≤ 16777216) : validP p = true := by
  rw [validP_iff]
  intro j hj1 hj2
  match j, hj1, hj2 with
  | 1, _, _ => exact decide_eq_true (by show _ ≤ (u64U p.1).val ∧ (u64U p.1).val ≤ _; rw [u64U_val]; exact h1)
  | 2, _, _ => exact decide_eq_true (by show _ ≤ (u64U p.2.1).val ∧ (u64U p.2.1).val ≤ _; rw [u64U_val]; exact ⟨Nat.zero_le _, h2⟩)
  | 3, _, _ => exact decide_eq_true (by show _ ≤ (u64U p.2.2.1).val ∧ (u64U p.2.2.1).val ≤ _; rw [u64U_val]; exact h3)
  | 4, _, _ => exact decide_eq_true h4
  | 5, _, _ => exact decide_eq_true (by show _ ≤ (u64U p.2.2.2.2.1).val ∧ (u64U p.2.2.2.2.1).val ≤ _; rw [u64U_val]; exact h5)
  | 6, _, _ => exact decide_eq_true ⟨Nat.zero_le _, h6⟩
  | 7, _, _ => exact decide_eq_true (by show _ ≤ (u64U p.2.2.2.2.2.2.1).val ∧ (u64U p.2.2.2.2.2.2.1).val ≤ _; rw [u64U_val]; exact ⟨Nat.zero_le _, h7⟩)
  | 8, _, _ => exact decide_eq_true ⟨Nat.zero_le _, h8⟩
  | 9, _, _ => exact decide_eq_true (by show _ ≤ (u64U p.2.2.2.2.2.2.2.2.1).val ∧ (u64U p.2.2.2.2.2.2.2.2.1).val ≤ _; rw [u64U_val]; exact h9)
  | 10, _, _ => exact decide_eq_true (by show _ ≤ (u64U p.2.2.2.2.2.2.2.2.2.1).val ∧ (u64U p.2.2.2.2.2.2.2.2.2.1).val ≤ _; rw [u64U_val]; exact h10)
  | 11, _, _ => exact decide_eq_true (by show _ ≤ (u64U p.2.2.2.2.2.2.2.2.2.2.1).val ∧ (u64U p.2.2.2.2.2.2.2.2.2.2.1).val ≤ _; rw [u64U_val]; exact ⟨Nat.zero_le _, h11⟩)
  | 12, _, _ => exact decide_eq_true (by show _ ≤ (u64U p.2.2.2.2.2.2.2.2.2.2.2.1).val ∧ (u64U p.2.2.2.2.2.2.2.2.2.2.2.1).val ≤ _; rw [u64U_val]; exact h12)
  | j + 13, _, h => omega

theorem rem_nat (a b : I .u64) (hb : b.nat ≠ 0) : (I.rem a b).nat = a.nat % b.nat := by
  have h1 := nat_val b
  have h : ((I.rem a b).nat : Int) = ((a.nat % b.nat : Nat) : Int) := by
    rw [nat_val, rem_u64 (by omega), ← nat_val a, ← nat_val b]
    exact (Int.natCast_emod _ _).symm
  exact Int.ofNat_inj.1 h

theorem add_nat_lt (a b : I .u64) (h : a.nat + b.nat < 18446744073709551616) : (I.add a b).nat = a.nat + b.nat := by
  rw [add_nat]; exact Nat.mod_eq_of_lt h

theorem shl_nat (a : I .u64) (h : a.nat < 64) : (I.shl (I.of .u64 1) a).nat = 2 ^ a.nat := by
  have h1 := nat_val a
  have h2 := shl_one (a := a) (by omega)
  have h3 : a.val.toNat = a.nat := rfl
  have h4 : ((2 ^ a.nat : Nat) : Int) = 2 ^ a.nat := by simp
  rw [h3, ← h4, ← nat_val] at h2
  exact Int.ofNat_inj.1 h2

/-- A power of two between. -/
theorem pow_shift (x c m : I .u64) (hm : m.nat ≠ 0) (h : c.nat + m.nat ≤ 64) : (I.shl (I.of .u64 1) (I.add c (I.rem x m))).nat ≠ 0 ∧ (I.shl (I.of .u64 1) (I.add c (I.rem x m))).nat ≤ 2 ^ (c.nat + m.nat - 1) := by
  have h1 := rem_nat x m hm
  have h2 := Nat.mod_lt x.nat (Nat.pos_of_ne_zero hm)
  have h3 := add_nat_lt c (I.rem x m) (by omega)
  have h4 := shl_nat (I.add c (I.rem x m)) (by omega)
  rw [h4]
  exact ⟨Nat.ne_of_gt (Nat.pow_pos (by decide)), Nat.pow_le_pow_right (by decide) (by omega)⟩

theorem nz_nat (x : I .u64) (h : x.nat ≠ 0) : I.nz x = true := by
  rw [iff_nz]
  have := nat_val x
  omega

theorem rem_lt (a b : I .u64) (hb : b.nat ≠ 0) : (I.rem a b).nat < b.nat := by
  rw [rem_nat a b hb]
  exact Nat.mod_lt _ (Nat.pos_of_ne_zero hb)

theorem one_add (a : I .u64) (h : a.nat < 18446744073709551615) : (I.add (I.of .u64 1) a).nat = 1 + a.nat := add_nat_lt (I.of .u64 1) a (by show 1 + _ < _; omega)

abbrev V8 : Type := I .u64 × I .u64 × I .u64 × I .u64 × I .u64 × I .u64 × I .u64 × I .u64 × Unit

theorem ValidParams_ok (v : V8) : ∃ p : Prm, pontagelaw14_ValidParams ((v, ()), ()) = some ((p, ()), ()) ∧ validP p = true := by
  have key : Wp (fun o => ∃ p : Prm, o = some ((p, ()), ()) ∧ validP p = true) (pontagelaw14_ValidParams ((v, ()), ())) := by
    obtain ⟨v0, v1, v2, v3, v4, v5, v6, v7, ⟨⟩⟩ := v
    unfold pontagelaw14_ValidParams
    have b0 := pow_shift v0 (I.of .u64 1) (I.of .u64 40) (by decide) (by decide)
    have b3 := pow_shift v3 (I.of .u64 1) (I.of .u64 60) (by decide) (by decide)
    have b4 := pow_shift v4 (I.of .u64 10) (I.of .u64 30) (by decide) (by decide)
    have b5 := pow_shift v5 (I.of .u64 1) (I.of .u64 60) (by decide) (by decide)
    have b7 := pow_shift v7 (I.of .u64 1) (I.of .u64 40) (by decide) (by decide)
    refine Wp.optF Genesis_eq ?_
    refine Wp.brnT (nn_u64 _) (Wp.brnT (nz_nat _ b0.1) (Wp.brnT (nn_u64 _) (Wp.brnT (nz_nat _ b3.1) (Wp.brnT (nn_u64 _) (Wp.brnT (nz_nat _ b4.1) (Wp.brnT (nn_u64 _) (Wp.brnT (nz_nat _ b5.1) (Wp.brnT (nn_u64 _) (Wp.brnT (nz_nat _ b7.1) ?_)))))))))
    refine ⟨_, rfl, ?_⟩
    have r0 := rem_lt v0 _ b0.1
    have r3 := rem_lt v3 _ b3.1
    have r4 := rem_lt v4 _ b4.1
    have r5 := rem_lt v5 _ b5.1
    have r7 := rem_lt v7 _ b7.1
    have r1 := rem_lt v1 (I.of .u64 40) (by decide)
    have r2 := rem_lt v2 (I.of .u64 300) (by decide)
    have r6 := rem_lt v6 (I.of .u64 10001) (by decide)
    have r8 := rem_lt v6 (I.of .u64 5000) (by decide)
    have r10 := rem_lt (I.quo v7 (I.of .u64 7)) (I.of .u64 100) (by decide)
    have t0 := Nat.le_trans b0.2 (show 2 ^ ((I.of .u64 1).nat + (I.of .u64 40).nat - 1) ≤ 1099511627776 by decide)
    have t3 := Nat.le_trans b3.2 (show 2 ^ ((I.of .u64 1).nat + (I.of .u64 60).nat - 1) ≤ 1152921504606846976 by decide)
    have t4 := Nat.le_trans b4.2 (show 2 ^ ((I.of .u64 10).nat + (I.of .u64 30).nat - 1) ≤ 549755813888 by decide)
    have t5 := Nat.le_trans b5.2 (show 2 ^ ((I.of .u64 1).nat + (I.of .u64 60).nat - 1) ≤ 1152921504606846976 by decide)
    have t7 := Nat.le_trans b7.2 (show 2 ^ ((I.of .u64 1).nat + (I.of .u64 40).nat - 1) ≤ 1099511627776 by decide)
    have n40 : (I.of .u64 40).nat = 40 := rfl
    have n300 : (I.of .u64 300).nat = 300 := rfl
    have n10001 : (I.of .u64 10001).nat = 10001 := rfl
    have n5000 : (I.of .u64 5000).nat = 5000 := rfl
    have n100 : (I.of .u64 100).nat = 100 := rfl
    refine validP_of _ ?_ ?_ ?_ ?_ ?_ ?_ ?_ ?_ ?_ ?_ ?_ ?_
    · show 1 ≤ (I.add _ _).nat ∧ (I.add _ _).nat ≤ _
      rw [one_add _ (Nat.lt_of_lt_of_le r0 (Nat.le_trans t0 (by decide)))]
      exact ⟨Nat.le_add_right _ _, Nat.le_trans (by rw [Nat.add_comm]; exact r0) t0⟩
    · show (I.rem v1 (I.of .u64 40)).nat ≤ _
      omega
    · show 1 ≤ (I.add _ (I.rem v2 (I.of .u64 300))).nat ∧ (I.add _ (I.rem v2 (I.of .u64 300))).nat ≤ _
      rw [one_add _ (by omega)]
      omega
    · show 1 ≤ (u64U (I.add _ _)).val ∧ (u64U (I.add _ _)).val ≤ _
      rw [u64U_val, one_add _ (Nat.lt_of_lt_of_le r3 (Nat.le_trans t3 (by decide)))]
      exact ⟨Nat.le_add_right _ _, Nat.le_trans (by rw [Nat.add_comm]; exact r3) (Nat.le_trans t3 (by decide))⟩
    · show 1 ≤ (I.add _ _).nat ∧ (I.add _ _).nat ≤ _
      rw [one_add _ (Nat.lt_of_lt_of_le r4 (Nat.le_trans t4 (by decide)))]
      exact ⟨Nat.le_add_right _ _, Nat.le_trans (by rw [Nat.add_comm]; exact r4) (Nat.le_trans t4 (by decide))⟩
    · show (u64U (I.rem _ _)).val ≤ _
      rw [u64U_val]
      exact Nat.le_trans (Nat.le_of_lt r5) (Nat.le_trans t5 (by decide))
    · show (I.rem v6 (I.of .u64 10001)).nat ≤ _
      omega
    · show (u64U (I.rem v6 (I.of .u64 5000))).val ≤ _
      rw [u64U_val]
      omega
    · show 1 ≤ (I.add _ _).nat ∧ (I.add _ _).nat ≤ _
      rw [one_add _ (Nat.lt_of_lt_of_le r7 (Nat.le_trans t7 (by decide)))]
      exact ⟨Nat.le_add_right _ _, Nat.le_trans (by rw [Nat.add_comm]; exact r7) t7⟩
    · show 1 ≤ (I.add _ (I.rem (I.quo v7 (I.of .u64 7)) (I.of .u64 100))).nat ∧ (I.add _ (I.rem (I.quo v7 (I.of .u64 7)) (I.of .u64 100))).nat ≤ _
      rw [one_add _ (by omega)]
      omega
    · show (I.of .u64 16).nat ≤ 1048576
      decide
    · show (I.of .u64 16).nat ≤ (I.of .u64 65536).nat ∧ (I.of .u64 65536).nat ≤ 16777216
      decide
  exact key.out

theorem surplus_law (a b : U) : pontagelaw19_L1PriceSurplus ((a, b, ()), ()) = some ((true, ()), ()) := by
  refine Wp.out (T := fun o => o = some ((true, ()), ())) ?_
  have ha := a.lt
  have hb := b.lt
  unfold pontagelaw19_L1PriceSurplus
  have hz : ((a.val : Int) - b.val).natAbs < U.top := by omega
  have hS : l1price_Surplus ((a, b, ()), ()) = some ((S.of ((a.val : Int) - b.val), ()), ()) := by
    refine Wp.out (T := fun o => o = some ((S.of ((a.val : Int) - b.val), ()), ())) ?_
    unfold l1price_Surplus
    exact Wp.optF (Diff_eq a b) rfl
  refine Wp.optF hS ?_
  have hc : clampS b (S.of ((a.val : Int) - b.val)) = (a, I.of .i64 0) := by
    unfold clampS
    rw [S.of_valid hz, if_pos rfl, S.int_of hz, if_neg (by omega), show ((b.val : Int) + ((a.val : Int) - b.val)).toNat = a.val by omega]
    unfold errS
    rw [if_pos ha, U.of_val]
  refine Wp.optF (AddClamped_eq b _) ?_
  refine Wp.optF (RDiff_eq a b) ?_
  refine Wp.brnT (eqbS_self _) ?_
  refine Wp.optF (Valid_eq _) (Wp.brnT (S.of_valid hz) ?_)
  refine Wp.optF (uint256_Cmp_eq a b) ?_
  refine Wp.brnT ?_ ?_
  · show Ty.eqb .bool (decide ((a.val : Int) - b.val < 0)) (I.ltb (cmpS a b) (I.of .i64 0)) = true
    rw [cmp_ltb, show decide ((a.val : Int) - b.val < 0) = decide (a.val < b.val) by
      by_cases h : a.val < b.val
      · rw [decide_eq_true h, decide_eq_true (by omega)]
      · rw [decide_eq_false h, decide_eq_false (by omega)]]
    cases decide (a.val < b.val) <;> rfl
  refine Wp.brnT ?_ ?_
  · show Ty.eqb (.arr 4 (.int .u64)) (clampS b (S.of ((a.val : Int) - b.val))).1 a = true
    rw [hc]
    exact eqb_self' a
  refine Wp.brnT ?_ ?_
  · show I.eqb (clampS b (S.of ((a.val : Int) - b.val))).2 (I.of .i64 0) = true
    rw [hc]
    rfl
  exact Wp.optF awake19 rfl
end Sym

/- The price of a unit: unchanged, direction, damped. -/
namespace Sym
open Go

theorem nonpos_div {a b : Int} (h : a ≤ 0) (hb : 0 < b) : a / b ≤ 0 := Int.ediv_le_of_le_mul hb (by rw [Int.zero_mul]; exact h)

theorem clamp_of {z : Int} (c : U) (hz : z.natAbs < U.top) : clampS c (S.of z) = if (c.val : Int) + z < 0 then (U.of 0, I.of .i64 0) else errS ((c.val : Int) + z).toNat := by
  unfold clampS
  rw [S.of_valid hz, if_pos rfl, S.int_of hz]

theorem delta_of {n o : Int} {u E J : Nat} (h1 : (n - o).natAbs < U.top) (h2 : (-n / (E : Int) - (n - o) / (u : Int)).natAbs < U.top) (h3 : ((-n / (E : Int) - (n - o) / (u : Int)) * (u : Int)).natAbs < U.top) : deltaZ n o u E J = (S.of ((-n / (E : Int) - (n - o) / (u : Int)) * (u : Int) / ((E / J + u : Nat) : Int)), I.of .i64 0) := by
  unfold deltaZ
  rw [if_pos h1, if_pos h2, if_pos h3]

theorem next_t {c : U} {a b : S} {u : I .u64} {p : Prm} {z : Int} (hp : validP p = true) (ha : validB a = true) (hb : validB b = true) (hu : u.nat ≠ 0) (hd : deltaZ a.int b.int u.nat (Prm.eq p).nat (Prm.inertia p).nat = (S.of z, I.of .i64 0)) : nextS c a b u p = clampS c (S.of z) := by
  unfold nextS
  rw [if_pos hp, if_pos ha, if_pos hb, if_neg hu, deltaS_t hp ha hb hu, hd, if_neg (show ¬ I.neb (I.of .i64 0) (I.of .i64 0) = true by decide)]

theorem one_rem (x m : I .u64) (hm : m.nat ≠ 0) (h : m.nat ≤ 1099511627776) : 1 ≤ (I.add (I.of .u64 1) (I.rem x m)).nat ∧ (I.add (I.of .u64 1) (I.rem x m)).nat ≤ m.nat := by
  have h1 := rem_lt x m hm
  rw [one_add _ (by omega)]
  omega

theorem unchanged_law (c : U) (a b : S) (u : I .u64) (v : V8) : pontagelaw19_L1PriceUnchanged ((c, a, b, u, v, ()), ()) = some ((true, ()), ()) := by
  refine Wp.out (T := fun o => o = some ((true, ()), ())) ?_
  unfold pontagelaw19_L1PriceUnchanged
  obtain ⟨p, ep, hp⟩ := ValidParams_ok v
  refine Wp.optF ep ?_
  refine Wp.jn (fun s => s.1.1 = u ∧ s.2.1 = c ∧ s.2.2.1 = a ∧ s.2.2.2.1 = b ∧ s.2.2.2.2.1 = p ∧ validB a = true ∧ validB b = true) ?_ ?_
  · rintro ⟨⟨u', ⟨⟩⟩, c', a', b', p', ⟨⟩⟩ ⟨e0, e1, e2, e3, e4, ha, hb⟩
    simp only at e0 e1 e2 e3 e4
    subst e0 e1 e2 e3 e4
    have hc := U.lt c'
    have hn1 : nextS c' a' b' (I.of .u64 0) p' = (c', I.of .i64 0) := by
      have h0 : (I.of .u64 0).nat = 0 := rfl
      unfold nextS
      rw [if_pos hp, if_pos ha, if_pos hb, if_pos h0]
    refine Wp.optF (Next_eq c' a' b' (I.of .u64 0) p') ?_
    rw [hn1]
    have hu := one_rem u' (I.of .u64 1000000) (by decide) (by decide)
    generalize hw : I.add (I.of .u64 1) (I.rem u' (I.of .u64 1000000)) = w at hu
    have t0 : (0 : Int).natAbs < U.top := by decide
    have v0 : validB (S.of 0) = true := S.of_valid t0
    have hn2 : nextS c' (S.of 0) (S.of 0) w p' = (c', I.of .i64 0) := by
      rw [next_t (z := 0) hp v0 v0 (by omega) (by
        rw [S.int_of t0, delta_of (by decide) (by simp; decide) (by simp; decide)]
        simp), clamp_of _ t0, if_neg (by omega), Int.add_zero, Int.toNat_natCast]
      unfold errS
      rw [if_pos hc, U.of_val]
    have hN := Next_eq c' (S.of 0) (S.of 0) w p'
    rw [hn2] at hN
    refine Wp.optF hN ?_
    exact Wp.brnT (eqb_self' _) (Wp.brnT rfl (Wp.brnT (eqb_self' _) (Wp.brnT rfl (Wp.optF awake19 rfl))))
  · intro j hj
    refine Wp.jn (fun s => s.1.1 = u ∧ s.1.2.1 = (!(validB a && validB b)) ∧ s.2.1 = c ∧ s.2.2.1 = a ∧ s.2.2.2.1 = b ∧ s.2.2.2.2.1 = p) ?_ ?_
    · rintro ⟨⟨u', v', ⟨⟩⟩, c', a', b', p', ⟨⟩⟩ ⟨e0, e00, e1, e2, e3, e4⟩
      simp only at e0 e00 e1 e2 e3 e4
      subst e0 e00 e1 e2 e3 e4
      refine Wp.brn (fun h => Wp.optF awake19 rfl) (fun h => ?_)
      replace h : (!(validB a' && validB b')) = false := h
      have hab : validB a' = true ∧ validB b' = true := by simpa using h
      exact hj _ ⟨rfl, rfl, rfl, rfl, rfl, hab.1, hab.2⟩
    · intro j2 hj2
      refine Wp.optF (Valid_eq a) ?_
      refine Wp.brn (fun h => ?_) (fun h => ?_)
      · have ha : validB a = false := bnot_t h
        exact hj2 _ ⟨rfl, by rw [ha]; rfl, rfl, rfl, rfl, rfl⟩
      · have ha : validB a = true := bnot_f h
        refine Wp.optF (Valid_eq b) ?_
        exact hj2 _ ⟨rfl, by rw [ha]; rfl, rfl, rfl, rfl, rfl⟩

theorem cmp_ge (a b : U) (h : b.val ≤ a.val) : I.leb (I.of .i64 0) (cmpS a b) = true := by
  unfold cmpS
  rw [if_neg (by omega)]
  split <;> rfl

theorem direction_law (n s c : I .u64) (v : V8) : pontagelaw19_L1PriceDirection ((n, s, c, v, ()), ()) = some ((true, ()), ()) := by
  refine Wp.out (T := fun o => o = some ((true, ()), ())) ?_
  unfold pontagelaw19_L1PriceDirection
  obtain ⟨p, ep, hp⟩ := ValidParams_ok v
  refine Wp.optF ep ?_
  have htop : U.top = 115792089237316195423570985008687907853269984665640564039457584007913129639936 := rfl
  have hs := nat_lt s
  have hnn := nat_lt n
  obtain ⟨hE1, hE2, hJ⟩ : 1 ≤ (Prm.eq p).nat ∧ (Prm.eq p).nat ≤ 1099511627776 ∧ 1 ≤ (Prm.inertia p).nat := validP_div hp
  have z1 : (-(s.nat : Int)).natAbs < U.top := by omega
  have z2 : (s.nat : Int).natAbs < U.top := by omega
  have e1 : int256_New ((true, u64U s, ()), ()) = some ((S.of (-(s.nat : Int)), ()), ()) := by
    have := New_eq true (u64U s)
    rw [show sgn true (u64U s).val = -(s.nat : Int) by rw [u64U_val]; rfl] at this
    exact this
  have e2 : int256_New ((false, u64U s, ()), ()) = some ((S.of (s.nat : Int), ()), ()) := by
    have := New_eq false (u64U s)
    rw [show sgn false (u64U s).val = (s.nat : Int) by rw [u64U_val]; rfl] at this
    exact this
  have hu := one_rem c (I.of .u64 1000000) (by decide) (by decide)
  have hm : (I.of .u64 1000000).nat = 1000000 := rfl
  refine Wp.optF e1 (Wp.optF e2 ?_)
  generalize hw : I.add (I.of .u64 1) (I.rem c (I.of .u64 1000000)) = w at hu
  have hby : (0 : Int) < (((Prm.eq p).nat / (Prm.inertia p).nat + w.nat : Nat) : Int) := by
    have : 0 < (Prm.eq p).nat / (Prm.inertia p).nat + w.nat := Nat.lt_of_lt_of_le (by omega) (Nat.le_add_left _ _)
    omega
  generalize hB : (((Prm.eq p).nat / (Prm.inertia p).nat + w.nat : Nat) : Int) = B at hby
  have small : ∀ z : Int, z.natAbs ≤ s.nat → (z * (w.nat : Int)).natAbs < 18446744073709551616 * 1000000 := by
    intro z hz
    rw [Int.natAbs_mul]
    have h1 : z.natAbs * (w.nat : Int).natAbs ≤ s.nat * 1000000 := Nat.mul_le_mul hz (by omega)
    omega
  have quo_small : ∀ z : Int, (z / B).natAbs ≤ z.natAbs := by
    intro z
    have := floor_abs z B.toNat (by omega)
    rw [show ((B.toNat : Nat) : Int) = B by omega] at this
    exact this
  have main : ∀ z : Int, z.natAbs = s.nat → ∃ q : Int, nextS (u64U n) (S.of z) (S.of z) w p = clampS (u64U n) (S.of q) ∧ q = -z / ((Prm.eq p).nat : Int) * (w.nat : Int) / B ∧ q.natAbs < 18446744073709551616 * 1000000 := by
    intro z hz
    have hz' : z.natAbs < U.top := by omega
    have f1 := floor_abs (-z) (Prm.eq p).nat (by omega)
    have s1 := small (-z / ((Prm.eq p).nat : Int)) (by omega)
    have ez : -z / ((Prm.eq p).nat : Int) - (z - z) / (w.nat : Int) = -z / ((Prm.eq p).nat : Int) := by
      rw [Int.sub_self, Int.zero_ediv, Int.sub_zero]
    refine ⟨_, ?_, rfl, ?_⟩
    · refine next_t hp (S.of_valid hz') (S.of_valid hz') (by omega) ?_
      rw [S.int_of hz', delta_of (by omega) (by rw [ez]; omega) (by rw [ez]; omega), ez, hB]
    · exact Nat.lt_of_le_of_lt (quo_small _) s1
  obtain ⟨q1, n1, d1, t1⟩ := main (-(s.nat : Int)) (by omega)
  obtain ⟨q2, n2, d2, t2⟩ := main (s.nat : Int) (by omega)
  have hq1 : 0 ≤ q1 := by
    rw [d1]
    refine Int.ediv_nonneg (Int.mul_nonneg (Int.ediv_nonneg (by omega) (by omega)) (by omega)) (by omega)
  have hq2 : q2 ≤ 0 := by
    rw [d2]
    have h1 : -(s.nat : Int) / ((Prm.eq p).nat : Int) ≤ 0 := nonpos_div (by omega) (by omega)
    have h2 : -(s.nat : Int) / ((Prm.eq p).nat : Int) * (w.nat : Int) ≤ 0 := Int.mul_nonpos_of_nonpos_of_nonneg h1 (by omega)
    exact nonpos_div h2 (by omega)
  have hv : (u64U n).val = n.nat := u64U_val n
  have c1 : clampS (u64U n) (S.of q1) = (U.of ((n.nat : Int) + q1).toNat, I.of .i64 0) := by
    rw [clamp_of _ (by omega), if_neg (by omega), hv]
    unfold errS
    rw [if_pos (by omega)]
  have c2 : ∃ x : U, clampS (u64U n) (S.of q2) = (x, I.of .i64 0) ∧ x.val ≤ n.nat := by
    rw [clamp_of _ (by omega)]
    by_cases h : ((u64U n).val : Int) + q2 < 0
    · rw [if_pos h]
      exact ⟨_, rfl, by rw [U.val_of (by omega)]; omega⟩
    · rw [if_neg h]
      unfold errS
      rw [if_pos (by omega)]
      exact ⟨_, rfl, by rw [U.val_of (by omega)]; omega⟩
  obtain ⟨x2, c2, hx2⟩ := c2
  have hN1 := Next_eq (u64U n) (S.of (-(s.nat : Int))) (S.of (-(s.nat : Int))) w p
  rw [n1, c1] at hN1
  have hN2 := Next_eq (u64U n) (S.of (s.nat : Int)) (S.of (s.nat : Int)) w p
  rw [n2, c2] at hN2
  refine Wp.optF hN1 (Wp.optF hN2 (Wp.brnT rfl (Wp.brnT rfl ?_)))
  refine Wp.optF (uint256_Cmp_eq (U.of ((n.nat : Int) + q1).toNat) (u64U n)) (Wp.brnT (cmp_ge _ _ (by rw [hv, U.val_of (by omega)]; omega)) ?_)
  refine Wp.optF (uint256_Cmp_eq x2 (u64U n)) (Wp.brnT (cmp_le _ _ (by rw [hv]; exact hx2)) ?_)
  exact Wp.optF awake19 rfl

theorem SCmp_i {z w : Int} (hz : z.natAbs < U.top) (hw : w.natAbs < U.top) : int256_Cmp ((S.of z, S.of w, ()), ()) = some ((cmpI z w, ()), ()) := by
  have := SCmp_t (S.of_valid hz) (S.of_valid hw)
  rw [S.int_of hz, S.int_of hw] at this
  exact this

theorem cmpI_le {z w : Int} (h : z ≤ w) : I.leb (cmpI z w) (I.of .i64 0) = true := by
  unfold cmpI
  by_cases h2 : z < w
  · rw [if_pos h2]; rfl
  · rw [if_neg h2, if_neg (by omega)]; rfl

theorem damped_law (a b : I .i64) (c : I .u64) (v : V8) : pontagelaw19_L1priceDamped ((a, b, c, v, ()), ()) = some ((true, ()), ()) := by
  refine Wp.out (T := fun o => o = some ((true, ()), ())) ?_
  unfold pontagelaw19_L1priceDamped
  obtain ⟨p, ep, hp⟩ := ValidParams_ok v
  refine Wp.optF ep (Wp.optF (SFrom_eq a) (Wp.optF (SFrom_eq b) ?_))
  have htop : U.top = 115792089237316195423570985008687907853269984665640564039457584007913129639936 := rfl
  have ha := i64_range a
  have hb := i64_range b
  obtain ⟨hE1, hE2, hJ⟩ : 1 ≤ (Prm.eq p).nat ∧ (Prm.eq p).nat ≤ 1099511627776 ∧ 1 ≤ (Prm.inertia p).nat := validP_div hp
  generalize hn : a.val = n at ha
  generalize ho : b.val = o at hb
  have tn : n.natAbs < U.top := by omega
  have tm : (-n).natAbs < U.top := by omega
  have to : o.natAbs < U.top := by omega
  have tg : (n - o).natAbs < U.top := by omega
  have eN : int256_Neg ((S.of n, ()), ()) = some ((S.of (-n), I.of .i64 0, ()), ()) := by
    have := Neg_t (S.of_valid tn)
    rw [S.int_of tn] at this
    exact this
  refine Wp.optF eN ?_
  have eS := SSub_i tn to
  rw [resS_lt tg] at eS
  refine Wp.optF eS ?_
  refine Wp.optF (DivFloor_i (z := -n) (Prm.eq p) tm (by omega)) ?_
  have hu := one_rem c (I.of .u64 1099511627776) (by decide) (by decide)
  have hm : (I.of .u64 1099511627776).nat = 1099511627776 := rfl
  generalize hw : I.add (I.of .u64 1) (I.rem c (I.of .u64 1099511627776)) = w at hu
  have eD := DivFloor_i (z := n - o) w tg (by omega)
  refine Wp.optF eD ?_
  have f1 := floor_abs (-n) (Prm.eq p).nat (by omega)
  have f2 := floor_abs (n - o) w.nat (by omega)
  generalize hd : -n / ((Prm.eq p).nat : Int) - (n - o) / (w.nat : Int) = d
  have td : d.natAbs < 73786976294838206464 := by omega
  have td' : d.natAbs < U.top := by omega
  have eT := SSub_i (z := -n / ((Prm.eq p).nat : Int)) (w := (n - o) / (w.nat : Int)) (by omega) (by omega)
  rw [hd, resS_lt td'] at eT
  refine Wp.optF eT ?_
  have tdu : (d * (w.nat : Int)).natAbs < U.top := by
    rw [Int.natAbs_mul]
    have h1 : d.natAbs * (w.nat : Int).natAbs ≤ 73786976294838206464 * 1099511627776 := Nat.mul_le_mul (by omega) (by omega)
    omega
  have hby : w.nat ≤ (Prm.eq p).nat / (Prm.inertia p).nat + w.nat := Nat.le_add_left _ _
  have eC := Delta_eq (S.of n) (S.of o) w p
  rw [deltaS_t hp (S.of_valid tn) (S.of_valid to) (by omega), S.int_of tn, S.int_of to, delta_of tg (by rw [hd]; exact td') (by rw [hd]; exact tdu), hd] at eC
  generalize hB : (Prm.eq p).nat / (Prm.inertia p).nat + w.nat = B at hby eC
  have fq := floor_abs (d * (w.nat : Int)) B (by omega)
  generalize hq : d * (w.nat : Int) / (B : Int) = q at fq eC
  refine Wp.optF eC ?_
  refine Wp.jn (fun s => s.2.1 = S.of d ∧ s.2.2.1 = S.of q) ?_ ?_
  · rintro ⟨⟨⟩, d', q', ⟨⟩⟩ ⟨e1, e2⟩
    simp only at e1 e2
    subst e1 e2
    have tq : q.natAbs < U.top := by omega
    have sd : (S.of d).1 = decide (d < 0) := rfl
    have sq : (S.of q).1 = decide (q < 0) := rfl
    by_cases h : d < 0
    · have h1 : d * (w.nat : Int) < 0 := Int.mul_neg_of_neg_of_pos h (by omega)
      have h2 : q < 0 := by rw [← hq]; exact Int.ediv_neg_of_neg_of_pos h1 (by omega)
      have h3 : d ≤ q := by
        rw [← hq]
        refine Int.le_ediv_of_mul_le (by omega) ?_
        exact Int.mul_le_mul_of_nonpos_left (by omega) (by omega)
      refine Wp.brnT (by show (S.of d).1 = true; rw [sd]; exact decide_eq_true h) (Wp.brnT (by show (S.of q).1 = true; rw [sq]; exact decide_eq_true h2) ?_)
      exact Wp.optF (SCmp_i td' tq) (Wp.brnT (cmpI_le h3) (Wp.optF awake19 rfl))
    · have h1 : 0 ≤ d * (w.nat : Int) := Int.mul_nonneg (by omega) (by omega)
      have h2 : 0 ≤ q := by rw [← hq]; exact Int.ediv_nonneg h1 (by omega)
      have h3 : q ≤ d := by
        rw [← hq]
        refine Int.ediv_le_of_le_mul (by omega) ?_
        exact Int.mul_le_mul_of_nonneg_left (by omega) (by omega)
      refine Wp.brnF (by show (S.of d).1 = false; rw [sd]; exact decide_eq_false h) (Wp.brnT (by show bnot (S.of q).1 = true; rw [sq, decide_eq_false (by omega)]; rfl) ?_)
      exact Wp.optF (SCmp_i tq td') (Wp.brnT (cmpI_le h3) (Wp.optF awake19 rfl))
  · intro j hj
    exact Wp.brnF rfl (Wp.brnF rfl (Wp.brnF rfl (Wp.brnF rfl (Wp.brnF rfl (Wp.brnF rfl (hj _ ⟨rfl, rfl⟩))))))
end Sym
