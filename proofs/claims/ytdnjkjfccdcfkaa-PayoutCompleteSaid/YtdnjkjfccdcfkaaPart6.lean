/- The contracts of the given functions. -/
import Derived.Test.YtdnjkjfccdcfkaaProg
import Derived.Test.YtdnjkjfccdcfkaaPart5
import Derived.Test.YtdnjkjfccdcfkaaPart3
import Derived.Test.YtdnjkjfccdcfkaaPart4
namespace Sym
open Go Go.Proofs
set_option maxRecDepth 100000

def tys : List (Nat × Ty) := [(2, (.int .i64)), (3, (.int .i64)), (4, .bool), (5, (.int .u8)), (6, (.int .u8)), (22, (.sl (.cons (.int .u64) (.cons (.arr 4 (.int .u64)) (.cons (.arr 4 (.int .u64)) (.cons (.arr 4 (.int .u64)) (.cons (.arr 4 (.int .u64)) (.cons (.int .u64) .nil)))))))), (23, (.sl (.cons (.int .i64) (.cons (.int .u64) (.cons (.arr 4 (.int .u64)) (.cons (.arr 4 (.int .u64)) (.cons .bool (.cons .bool (.cons (.int .u64) .nil))))))))), (24, (.int .u64)), (26, (.arr 4 (.int .u64))), (29, (.arr 2 (.sl (.cons (.int .u64) (.cons (.arr 4 (.int .u64)) (.cons (.arr 4 (.int .u64)) (.cons (.arr 4 (.int .u64)) (.cons (.arr 4 (.int .u64)) (.cons (.int .u64) .nil))))))))), (30, (.arr 2 (.arr 4 (.int .u64)))), (31, (.sl (.cons (.int .u64) (.cons (.arr 4 (.int .u64)) .nil)))), (32, (.int .i64)), (37, (.arr 2 (.int .u64))), (38, (.arr 2 (.arr 2 (.arr 4 (.int .u64))))), (40, (.int .u64)), (42, (.cons (.int .u64) (.cons (.arr 4 (.int .u64)) .nil))), (48, (.cons (.int .u64) (.cons (.arr 4 (.int .u64)) (.cons (.arr 4 (.int .u64)) (.cons (.arr 4 (.int .u64)) (.cons (.arr 4 (.int .u64)) (.cons (.int .u64) .nil))))))), (52, (.arr 2 (.sl (.cons (.int .u64) (.cons (.arr 4 (.int .u64)) .nil))))), (56, (.arr 3 (.arr 4 (.int .u64)))), (63, (.cons (.int .i64) (.cons (.int .u64) (.cons (.arr 4 (.int .u64)) (.cons (.arr 4 (.int .u64)) (.cons .bool (.cons .bool (.cons (.int .u64) .nil)))))))), (66, .opq), (72, (.sl (.int .i64))), (81, (.sl (.arr 4 (.int .u64)))), (84, (.arr 5 (.int .u64))), (88, (.sl (.cons (.cons (.int .u64) (.cons (.arr 4 (.int .u64)) (.cons (.arr 4 (.int .u64)) (.cons (.arr 4 (.int .u64)) (.cons (.arr 4 (.int .u64)) (.cons (.int .u64) .nil)))))) (.cons (.int .i64) .nil)))), (90, (.cons (.sl (.cons (.cons (.int .u64) (.cons (.arr 4 (.int .u64)) (.cons (.arr 4 (.int .u64)) (.cons (.arr 4 (.int .u64)) (.cons (.arr 4 (.int .u64)) (.cons (.int .u64) .nil)))))) (.cons (.int .i64) .nil))) .nil)), (92, .opq), (94, (.cons (.cons (.int .u64) (.cons (.arr 4 (.int .u64)) (.cons (.arr 4 (.int .u64)) (.cons (.arr 4 (.int .u64)) (.cons (.arr 4 (.int .u64)) (.cons (.int .u64) .nil)))))) (.cons (.int .i64) .nil))), (96, (.int .u64)), (102, .opq)]
def eqs : List (Nat × Ty) := [(2, (.int .i64)), (3, (.int .i64)), (4, .bool), (5, (.int .u8)), (6, (.int .u8)), (24, (.int .u64)), (26, (.arr 4 (.int .u64))), (30, (.arr 2 (.arr 4 (.int .u64)))), (32, (.int .i64)), (37, (.arr 2 (.int .u64))), (38, (.arr 2 (.arr 2 (.arr 4 (.int .u64))))), (40, (.int .u64)), (42, (.cons (.int .u64) (.cons (.arr 4 (.int .u64)) .nil))), (48, (.cons (.int .u64) (.cons (.arr 4 (.int .u64)) (.cons (.arr 4 (.int .u64)) (.cons (.arr 4 (.int .u64)) (.cons (.arr 4 (.int .u64)) (.cons (.int .u64) .nil))))))), (56, (.arr 3 (.arr 4 (.int .u64)))), (63, (.cons (.int .i64) (.cons (.int .u64) (.cons (.arr 4 (.int .u64)) (.cons (.arr 4 (.int .u64)) (.cons .bool (.cons .bool (.cons (.int .u64) .nil)))))))), (66, .opq), (84, (.arr 5 (.int .u64))), (92, .opq), (94, (.cons (.cons (.int .u64) (.cons (.arr 4 (.int .u64)) (.cons (.arr 4 (.int .u64)) (.cons (.arr 4 (.int .u64)) (.cons (.arr 4 (.int .u64)) (.cons (.int .u64) .nil)))))) (.cons (.int .i64) .nil))), (96, (.int .u64)), (102, .opq)]
theorem tysOk : tys.all (fun x => tiB Try.prog x.1 x.2) = true := by kernel_rfl
theorem eqsOk : eqs.all (fun x => eqiB Try.prog x.1 x.2) = true := by kernel_rfl
theorem follows : Try.prog.follows .mixedOrders = true := by kernel_rfl
theorem noOddP : noOdd Try.prog := noOdd_of (by kernel_rfl)
def owns : List Nat := [88, 90]
def meths : List (Nat × String × FuncId × Option Nat) := [(92, "Len", 80, some 88), (92, "Less", 81, some 88), (92, "Pop", 83, none), (92, "Push", 84, none), (92, "Swap", 82, some 88)]
theorem methsOk : meths.all (fun x => methB Try.prog x.1 x.2.1 x.2.2.1 x.2.2.2) = true := by kernel_rfl
/-- pontage/uint256.Cmp -/
noncomputable def uint256_CmpC : Con := ⟨⟨[.pl (.arr 4 (.int .u64)), .pl (.arr 4 (.int .u64))], []⟩, ⟨[.pl (.int .i64)], []⟩, uint256_Cmp⟩
noncomputable def env13 : Env := mkEnv Try.prog tys eqs [] owns meths
def ann13 : Anns := fun p _ => match p with | 1000000 :: _ => none | _ => some (.unroll 6)
theorem ev13 : ∀ x, evalFn env13 ann13 13 ⟨[.pl (.arr 4 (.int .u64)), .pl (.arr 4 (.int .u64))], []⟩ ⟨[.pl (.int .i64)], []⟩ 60 K0 x = uint256_Cmp x := by intro x; kernel_rfl
theorem ok13 : ConOk Try.prog 13 uint256_CmpC := con_of_ev (E := env13) (envOk tysOk eqsOk (show HowsOk Try.prog [] from trivial) follows methsOk) noOddP fun x _ h => ⟨ann13, 60, K0, (ev13 x).trans h⟩
/-- pontage/uint256.Min -/
noncomputable def uint256_MinC : Con := ⟨⟨[.pl (.arr 4 (.int .u64)), .pl (.sl (.arr 4 (.int .u64)))], []⟩, ⟨[.pl (.arr 4 (.int .u64))], []⟩, uint256_Min⟩
noncomputable def env21 : Env := mkEnv Try.prog tys eqs [(13, .con uint256_CmpC)] owns meths
def ann21 : Anns := fun p c => match p, c with | [21], 0 => some (.tmpl ⟨[.dead, .dead, .ptr 0 [], .dead, .ptr 1 [], .dead, .dead, .pl (.sl (.arr 4 (.int .u64))), .pl (.int .i64), .pl (.int .i64), .dead, .dead, .dead, .dead, .dead, .dead, .dead, .dead, .dead, .dead], [.box (.arr 4 (.int .u64)) (.pl (.arr 4 (.int .u64))), .box (.arr 4 (.int .u64)) (.pl (.arr 4 (.int .u64)))]⟩) | _, _ => none
theorem ev21 : ∀ x, evalFn env21 ann21 21 ⟨[.pl (.arr 4 (.int .u64)), .pl (.sl (.arr 4 (.int .u64)))], []⟩ ⟨[.pl (.arr 4 (.int .u64))], []⟩ 60 K0 x = uint256_Min x := by intro x; kernel_rfl
theorem ok21 : ConOk Try.prog 21 uint256_MinC := con_of_ev (E := env21) (envOk tysOk eqsOk (show HowsOk Try.prog [(13, .con uint256_CmpC)] from (And.intro ok13 trivial)) follows methsOk) noOddP fun x _ h => ⟨ann21, 60, K0, (ev21 x).trans h⟩
theorem ok60 : ConOk Try.prog 60 sub64C := sub64_ok (fn := Try.f60) (by kernel_rfl) (by kernel_rfl) (by kernel_rfl) (by kernel_rfl) (by kernel_rfl)
/-- pontage/uint256.Sub -/
noncomputable def uint256_SubC : Con := ⟨⟨[.pl (.arr 4 (.int .u64)), .pl (.arr 4 (.int .u64))], []⟩, ⟨[.pl (.arr 4 (.int .u64)), .pl (.int .i64)], []⟩, uint256_Sub⟩
noncomputable def env43 : Env := mkEnv Try.prog tys eqs [(60, .con sub64C)] owns meths
def ann43 : Anns := fun p _ => match p with | 1000000 :: _ => none | _ => some (.unroll 6)
theorem ev43 : ∀ x, evalFn env43 ann43 43 ⟨[.pl (.arr 4 (.int .u64)), .pl (.arr 4 (.int .u64))], []⟩ ⟨[.pl (.arr 4 (.int .u64)), .pl (.int .i64)], []⟩ 60 K0 x = uint256_Sub x := by intro x; kernel_rfl
theorem ok43 : ConOk Try.prog 43 uint256_SubC := con_of_ev (E := env43) (envOk tysOk eqsOk (show HowsOk Try.prog [(60, .con sub64C)] from (And.intro ok60 trivial)) follows methsOk) noOddP fun x _ h => ⟨ann43, 60, K0, (ev43 x).trans h⟩
/-- pontage/uint256.SaturatingSub -/
noncomputable def uint256_SaturatingSubC : Con := ⟨⟨[.pl (.arr 4 (.int .u64)), .pl (.arr 4 (.int .u64))], []⟩, ⟨[.pl (.arr 4 (.int .u64))], []⟩, uint256_SaturatingSub⟩
noncomputable def env22 : Env := mkEnv Try.prog tys eqs [(43, .con uint256_SubC)] owns meths
def ann22 : Anns := fun _ _ => none
theorem ev22 : ∀ x, evalFn env22 ann22 22 ⟨[.pl (.arr 4 (.int .u64)), .pl (.arr 4 (.int .u64))], []⟩ ⟨[.pl (.arr 4 (.int .u64))], []⟩ 60 K0 x = uint256_SaturatingSub x := by intro x; kernel_rfl
theorem ok22 : ConOk Try.prog 22 uint256_SaturatingSubC := con_of_ev (E := env22) (envOk tysOk eqsOk (show HowsOk Try.prog [(43, .con uint256_SubC)] from (And.intro ok43 trivial)) follows methsOk) noOddP fun x _ h => ⟨ann22, 60, K0, (ev22 x).trans h⟩
theorem ok55 : ConOk Try.prog 55 add64C := add64_ok (fn := Try.f55) (by kernel_rfl) (by kernel_rfl) (by kernel_rfl) (by kernel_rfl) (by kernel_rfl)
/-- pontage/poster.sum -/
noncomputable def poster_sumC : Con := ⟨⟨[.pl (.arr 4 (.int .u64)), .pl (.arr 4 (.int .u64))], []⟩, ⟨[.pl (.arr 5 (.int .u64))], []⟩, poster_sum⟩
noncomputable def env47 : Env := mkEnv Try.prog tys eqs [(55, .con add64C)] owns meths
def ann47 : Anns := fun p c => match p, c with | [47], 0 => some (.tmpl ⟨[.dead, .dead, .ptr 0 [], .ptr 1 [], .ptr 2 [], .ptr 3 [], .pl (.int .u64), .dead, .pl (.int .i64), .dead, .dead, .dead, .dead, .dead, .dead, .dead, .dead, .dead, .dead, .dead, .dead, .dead, .dead, .dead, .dead, .dead, .dead, .dead], [.box (.arr 4 (.int .u64)) (.pl (.arr 4 (.int .u64))), .box (.arr 4 (.int .u64)) (.pl (.arr 4 (.int .u64))), .box (.arr 5 (.int .u64)) (.pl (.arr 5 (.int .u64))), .box (.arr 5 (.int .u64)) (.pl (.arr 5 (.int .u64)))]⟩) | _, _ => none
theorem ev47 : ∀ x, evalFn env47 ann47 47 ⟨[.pl (.arr 4 (.int .u64)), .pl (.arr 4 (.int .u64))], []⟩ ⟨[.pl (.arr 5 (.int .u64))], []⟩ 60 K0 x = poster_sum x := by intro x; kernel_rfl
theorem ok47 : ConOk Try.prog 47 poster_sumC := con_of_ev (E := env47) (envOk tysOk eqsOk (show HowsOk Try.prog [(55, .con add64C)] from (And.intro ok55 trivial)) follows methsOk) noOddP fun x _ h => ⟨ann47, 60, K0, (ev47 x).trans h⟩
/-- pontage/poster.isZero -/
noncomputable def poster_isZeroC : Con := ⟨⟨[.pl (.arr 4 (.int .u64))], []⟩, ⟨[.pl .bool], []⟩, poster_isZero⟩
noncomputable def env48 : Env := mkEnv Try.prog tys eqs [] owns meths
def ann48 : Anns := fun _ _ => none
theorem ev48 : ∀ x, evalFn env48 ann48 48 ⟨[.pl (.arr 4 (.int .u64))], []⟩ ⟨[.pl .bool], []⟩ 60 K0 x = poster_isZero x := by intro x; kernel_rfl
theorem ok48 : ConOk Try.prog 48 poster_isZeroC := con_of_ev (E := env48) (envOk tysOk eqsOk (show HowsOk Try.prog [] from trivial) follows methsOk) noOddP fun x _ h => ⟨ann48, 60, K0, (ev48 x).trans h⟩
/-- pontage/poster.Valid -/
noncomputable def poster_ValidC : Con := ⟨⟨[.pl (.sl (.cons (.int .u64) (.cons (.arr 4 (.int .u64)) (.cons (.arr 4 (.int .u64)) (.cons (.arr 4 (.int .u64)) (.cons (.arr 4 (.int .u64)) (.cons (.int .u64) .nil)))))))], []⟩, ⟨[.pl .bool], []⟩, poster_Valid⟩
noncomputable def env26 : Env := mkEnv Try.prog tys eqs [(47, .con poster_sumC), (48, .con poster_isZeroC)] owns meths
def ann26 : Anns := fun p c => match p, c with | [1000000, 26], 7 => some (.join ⟨[.pl (.sl (.cons (.int .u64) (.cons (.arr 4 (.int .u64)) (.cons (.arr 4 (.int .u64)) (.cons (.arr 4 (.int .u64)) (.cons (.arr 4 (.int .u64)) (.cons (.int .u64) .nil))))))), .dead, .dead, .dead, .ptr 0 [], .pl (.sl (.cons (.int .u64) (.cons (.arr 4 (.int .u64)) (.cons (.arr 4 (.int .u64)) (.cons (.arr 4 (.int .u64)) (.cons (.arr 4 (.int .u64)) (.cons (.int .u64) .nil))))))), .pl (.int .i64), .pl (.int .i64), .dead, .dead, .dead, .dead, .dead, .dead, .dead, .dead, .pl (.int .i64), .pl .bool, .pl .bool, .dead, .dead, .dead, .dead, .dead, .dead, .dead, .dead, .dead, .pl .bool, .dead, .dead, .dead, .dead, .dead, .dead, .dead, .dead, .dead, .dead, .dead, .dead, .dead, .dead, .dead, .dead, .dead, .dead, .dead, .dead, .dead, .dead, .dead, .dead, .dead], [.box (.cons (.int .u64) (.cons (.arr 4 (.int .u64)) (.cons (.arr 4 (.int .u64)) (.cons (.arr 4 (.int .u64)) (.cons (.arr 4 (.int .u64)) (.cons (.int .u64) .nil)))))) (.pl (.cons (.int .u64) (.cons (.arr 4 (.int .u64)) (.cons (.arr 4 (.int .u64)) (.cons (.arr 4 (.int .u64)) (.cons (.arr 4 (.int .u64)) (.cons (.int .u64) .nil)))))))]⟩) | [26], 0 => some (.tmpl ⟨[.pl (.sl (.cons (.int .u64) (.cons (.arr 4 (.int .u64)) (.cons (.arr 4 (.int .u64)) (.cons (.arr 4 (.int .u64)) (.cons (.arr 4 (.int .u64)) (.cons (.int .u64) .nil))))))), .dead, .dead, .dead, .dead, .pl (.sl (.cons (.int .u64) (.cons (.arr 4 (.int .u64)) (.cons (.arr 4 (.int .u64)) (.cons (.arr 4 (.int .u64)) (.cons (.arr 4 (.int .u64)) (.cons (.int .u64) .nil))))))), .pl (.int .i64), .pl (.int .i64), .dead, .dead, .dead, .dead, .dead, .dead, .dead, .dead, .dead, .dead, .dead, .dead, .dead, .dead, .dead, .dead, .dead, .dead, .dead, .dead, .dead, .dead, .dead, .dead, .dead, .dead, .dead, .dead, .dead, .dead, .dead, .dead, .dead, .dead, .dead, .dead, .dead, .dead, .dead, .dead, .dead, .dead, .dead, .dead, .dead, .dead], []⟩) | _, _ => none
theorem ev26 : ∀ x, evalFn env26 ann26 26 ⟨[.pl (.sl (.cons (.int .u64) (.cons (.arr 4 (.int .u64)) (.cons (.arr 4 (.int .u64)) (.cons (.arr 4 (.int .u64)) (.cons (.arr 4 (.int .u64)) (.cons (.int .u64) .nil)))))))], []⟩ ⟨[.pl .bool], []⟩ 60 K0 x = poster_Valid x := by intro x; kernel_rfl
theorem ok26 : ConOk Try.prog 26 poster_ValidC := con_of_ev (E := env26) (envOk tysOk eqsOk (show HowsOk Try.prog [(47, .con poster_sumC), (48, .con poster_isZeroC)] from (And.intro ok47 (And.intro ok48 trivial))) follows methsOk) noOddP fun x _ h => ⟨ann26, 60, K0, (ev26 x).trans h⟩
/-- (pontage/debtqueue.items).Len -/
noncomputable def debtqueue_items_LenC : Con := ⟨⟨[.pl (.sl (.cons (.cons (.int .u64) (.cons (.arr 4 (.int .u64)) (.cons (.arr 4 (.int .u64)) (.cons (.arr 4 (.int .u64)) (.cons (.arr 4 (.int .u64)) (.cons (.int .u64) .nil)))))) (.cons (.int .i64) .nil)))], []⟩, ⟨[.pl (.int .i64)], []⟩, debtqueue_items_Len⟩
noncomputable def env80 : Env := mkEnv Try.prog tys eqs [] owns meths
def ann80 : Anns := fun _ _ => none
theorem ev80 : ∀ x, evalFn env80 ann80 80 ⟨[.pl (.sl (.cons (.cons (.int .u64) (.cons (.arr 4 (.int .u64)) (.cons (.arr 4 (.int .u64)) (.cons (.arr 4 (.int .u64)) (.cons (.arr 4 (.int .u64)) (.cons (.int .u64) .nil)))))) (.cons (.int .i64) .nil)))], []⟩ ⟨[.pl (.int .i64)], []⟩ 60 K0 x = debtqueue_items_Len x := by intro x; kernel_rfl
theorem ok80 : ConOk Try.prog 80 debtqueue_items_LenC := con_of_ev (E := env80) (envOk tysOk eqsOk (show HowsOk Try.prog [] from trivial) follows methsOk) noOddP fun x _ h => ⟨ann80, 60, K0, (ev80 x).trans h⟩
/-- (pontage/debtqueue.items).Less -/
noncomputable def debtqueue_items_LessC : Con := ⟨⟨[.pl (.sl (.cons (.cons (.int .u64) (.cons (.arr 4 (.int .u64)) (.cons (.arr 4 (.int .u64)) (.cons (.arr 4 (.int .u64)) (.cons (.arr 4 (.int .u64)) (.cons (.int .u64) .nil)))))) (.cons (.int .i64) .nil))), .pl (.int .i64), .pl (.int .i64)], []⟩, ⟨[.pl .bool], []⟩, debtqueue_items_Less⟩
noncomputable def env81 : Env := mkEnv Try.prog tys eqs [] owns meths
def ann81 : Anns := fun _ _ => none
theorem ev81 : ∀ x, evalFn env81 ann81 81 ⟨[.pl (.sl (.cons (.cons (.int .u64) (.cons (.arr 4 (.int .u64)) (.cons (.arr 4 (.int .u64)) (.cons (.arr 4 (.int .u64)) (.cons (.arr 4 (.int .u64)) (.cons (.int .u64) .nil)))))) (.cons (.int .i64) .nil))), .pl (.int .i64), .pl (.int .i64)], []⟩ ⟨[.pl .bool], []⟩ 60 K0 x = debtqueue_items_Less x := by intro x; kernel_rfl
theorem ok81 : ConOk Try.prog 81 debtqueue_items_LessC := con_of_ev (E := env81) (envOk tysOk eqsOk (show HowsOk Try.prog [] from trivial) follows methsOk) noOddP fun x _ h => ⟨ann81, 60, K0, (ev81 x).trans h⟩
/-- container/heap.Push -/
noncomputable def container_heap_PushC : Con := ⟨⟨[.iface 92 (.ptr 0 [.fld 0]), .iface 94 (.pl (.cons (.cons (.int .u64) (.cons (.arr 4 (.int .u64)) (.cons (.arr 4 (.int .u64)) (.cons (.arr 4 (.int .u64)) (.cons (.arr 4 (.int .u64)) (.cons (.int .u64) .nil)))))) (.cons (.int .i64) .nil)))], [.box (.cons (.sl (.cons (.cons (.int .u64) (.cons (.arr 4 (.int .u64)) (.cons (.arr 4 (.int .u64)) (.cons (.arr 4 (.int .u64)) (.cons (.arr 4 (.int .u64)) (.cons (.int .u64) .nil)))))) (.cons (.int .i64) .nil))) .nil) (.pair (.whole 1) (.pl .nil)), .row (.cons (.cons (.int .u64) (.cons (.arr 4 (.int .u64)) (.cons (.arr 4 (.int .u64)) (.cons (.arr 4 (.int .u64)) (.cons (.arr 4 (.int .u64)) (.cons (.int .u64) .nil)))))) (.cons (.int .i64) .nil))]⟩, ⟨[], [.box (.cons (.sl (.cons (.cons (.int .u64) (.cons (.arr 4 (.int .u64)) (.cons (.arr 4 (.int .u64)) (.cons (.arr 4 (.int .u64)) (.cons (.arr 4 (.int .u64)) (.cons (.int .u64) .nil)))))) (.cons (.int .i64) .nil))) .nil) (.pair (.whole 1) (.pl .nil)), .row (.cons (.cons (.int .u64) (.cons (.arr 4 (.int .u64)) (.cons (.arr 4 (.int .u64)) (.cons (.arr 4 (.int .u64)) (.cons (.arr 4 (.int .u64)) (.cons (.int .u64) .nil)))))) (.cons (.int .i64) .nil))]⟩, container_heap_Push⟩
noncomputable def env49 : Env := mkEnv Try.prog tys eqs [(61, .inl), (80, .con debtqueue_items_LenC), (81, .con debtqueue_items_LessC), (82, .inl), (84, .inl)] owns meths
def ann49 : Anns := fun p c => match p, c with | [61, 1, 4, 49], 0 => some (.tmpl ⟨[(.iface 92 (.ptr 0 [.fld 0])), .pl (.int .i64), .dead, .dead, .dead, .dead, .dead, .dead, .dead, .dead, .dead, .dead, .dead, .dead, .dead, .dead, .dead, .dead, .dead, .dead, .dead, .dead, .dead, .dead, .dead, .dead, .dead, .dead, .dead, .dead, .dead, .dead, .dead, .dead, .dead, .ptr 0 []], [.box (.cons (.sl (.cons (.cons (.int .u64) (.cons (.arr 4 (.int .u64)) (.cons (.arr 4 (.int .u64)) (.cons (.arr 4 (.int .u64)) (.cons (.arr 4 (.int .u64)) (.cons (.int .u64) .nil)))))) (.cons (.int .i64) .nil))) .nil) ((.pair (.whole 1) (.pl .nil))), .row (.cons (.cons (.int .u64) (.cons (.arr 4 (.int .u64)) (.cons (.arr 4 (.int .u64)) (.cons (.arr 4 (.int .u64)) (.cons (.arr 4 (.int .u64)) (.cons (.int .u64) .nil)))))) (.cons (.int .i64) .nil))]⟩) | _, _ => none
theorem ev49 : ∀ x, evalFn env49 ann49 49 ⟨[.iface 92 (.ptr 0 [.fld 0]), .iface 94 (.pl (.cons (.cons (.int .u64) (.cons (.arr 4 (.int .u64)) (.cons (.arr 4 (.int .u64)) (.cons (.arr 4 (.int .u64)) (.cons (.arr 4 (.int .u64)) (.cons (.int .u64) .nil)))))) (.cons (.int .i64) .nil)))], [.box (.cons (.sl (.cons (.cons (.int .u64) (.cons (.arr 4 (.int .u64)) (.cons (.arr 4 (.int .u64)) (.cons (.arr 4 (.int .u64)) (.cons (.arr 4 (.int .u64)) (.cons (.int .u64) .nil)))))) (.cons (.int .i64) .nil))) .nil) (.pair (.whole 1) (.pl .nil)), .row (.cons (.cons (.int .u64) (.cons (.arr 4 (.int .u64)) (.cons (.arr 4 (.int .u64)) (.cons (.arr 4 (.int .u64)) (.cons (.arr 4 (.int .u64)) (.cons (.int .u64) .nil)))))) (.cons (.int .i64) .nil))]⟩ ⟨[], [.box (.cons (.sl (.cons (.cons (.int .u64) (.cons (.arr 4 (.int .u64)) (.cons (.arr 4 (.int .u64)) (.cons (.arr 4 (.int .u64)) (.cons (.arr 4 (.int .u64)) (.cons (.int .u64) .nil)))))) (.cons (.int .i64) .nil))) .nil) (.pair (.whole 1) (.pl .nil)), .row (.cons (.cons (.int .u64) (.cons (.arr 4 (.int .u64)) (.cons (.arr 4 (.int .u64)) (.cons (.arr 4 (.int .u64)) (.cons (.arr 4 (.int .u64)) (.cons (.int .u64) .nil)))))) (.cons (.int .i64) .nil))]⟩ 140 K0 x = container_heap_Push x := by intro x; kernel_rfl
theorem ok49 : ConOk Try.prog 49 container_heap_PushC := con_of_ev (E := env49) (envOk tysOk eqsOk (show HowsOk Try.prog [(61, .inl), (80, .con debtqueue_items_LenC), (81, .con debtqueue_items_LessC), (82, .inl), (84, .inl)] from (And.intro ok80 (And.intro ok81 trivial))) follows methsOk) noOddP fun x _ h => ⟨ann49, 140, K0, (ev49 x).trans h⟩
/-- pontage/debtqueue.New -/
noncomputable def debtqueue_NewC : Con := ⟨⟨[.pl (.sl (.cons (.int .u64) (.cons (.arr 4 (.int .u64)) (.cons (.arr 4 (.int .u64)) (.cons (.arr 4 (.int .u64)) (.cons (.arr 4 (.int .u64)) (.cons (.int .u64) .nil)))))))], []⟩, ⟨[.ptr 0 []], [.box (.cons (.sl (.cons (.cons (.int .u64) (.cons (.arr 4 (.int .u64)) (.cons (.arr 4 (.int .u64)) (.cons (.arr 4 (.int .u64)) (.cons (.arr 4 (.int .u64)) (.cons (.int .u64) .nil)))))) (.cons (.int .i64) .nil))) .nil) (.pair (.whole 1) (.pl .nil)), .row (.cons (.cons (.int .u64) (.cons (.arr 4 (.int .u64)) (.cons (.arr 4 (.int .u64)) (.cons (.arr 4 (.int .u64)) (.cons (.arr 4 (.int .u64)) (.cons (.int .u64) .nil)))))) (.cons (.int .i64) .nil))]⟩, debtqueue_New⟩
noncomputable def env27 : Env := mkEnv Try.prog tys eqs [(49, .con container_heap_PushC)] owns meths
def ann27 : Anns := fun p c => match p, c with | [27], 0 => some (.tmpl ⟨[.dead, .dead, .dead, .ptr 0 [], .dead, .dead, .dead, .dead, .pl (.sl (.cons (.int .u64) (.cons (.arr 4 (.int .u64)) (.cons (.arr 4 (.int .u64)) (.cons (.arr 4 (.int .u64)) (.cons (.arr 4 (.int .u64)) (.cons (.int .u64) .nil))))))), .pl (.int .i64), .pl (.int .i64), .dead, .dead, .dead, .dead, .dead, .dead, .dead, .dead, .dead, .dead, .dead, .dead, .dead, .dead, .dead, .dead, .dead, .dead, .dead], [.box (.cons (.sl (.cons (.cons (.int .u64) (.cons (.arr 4 (.int .u64)) (.cons (.arr 4 (.int .u64)) (.cons (.arr 4 (.int .u64)) (.cons (.arr 4 (.int .u64)) (.cons (.int .u64) .nil)))))) (.cons (.int .i64) .nil))) .nil) ((.pair (.whole 1) (.pl .nil))), .row (.cons (.cons (.int .u64) (.cons (.arr 4 (.int .u64)) (.cons (.arr 4 (.int .u64)) (.cons (.arr 4 (.int .u64)) (.cons (.arr 4 (.int .u64)) (.cons (.int .u64) .nil)))))) (.cons (.int .i64) .nil))]⟩) | _, _ => none
theorem ev27 : ∀ x, evalFn env27 ann27 27 ⟨[.pl (.sl (.cons (.int .u64) (.cons (.arr 4 (.int .u64)) (.cons (.arr 4 (.int .u64)) (.cons (.arr 4 (.int .u64)) (.cons (.arr 4 (.int .u64)) (.cons (.int .u64) .nil)))))))], []⟩ ⟨[.ptr 0 []], [.box (.cons (.sl (.cons (.cons (.int .u64) (.cons (.arr 4 (.int .u64)) (.cons (.arr 4 (.int .u64)) (.cons (.arr 4 (.int .u64)) (.cons (.arr 4 (.int .u64)) (.cons (.int .u64) .nil)))))) (.cons (.int .i64) .nil))) .nil) (.pair (.whole 1) (.pl .nil)), .row (.cons (.cons (.int .u64) (.cons (.arr 4 (.int .u64)) (.cons (.arr 4 (.int .u64)) (.cons (.arr 4 (.int .u64)) (.cons (.arr 4 (.int .u64)) (.cons (.int .u64) .nil)))))) (.cons (.int .i64) .nil))]⟩ 140 K0 x = debtqueue_New x := by intro x; kernel_rfl
theorem ok27 : ConOk Try.prog 27 debtqueue_NewC := con_of_ev (E := env27) (envOk tysOk eqsOk (show HowsOk Try.prog [(49, .con container_heap_PushC)] from (And.intro ok49 trivial)) follows methsOk) noOddP fun x _ h => ⟨ann27, 140, K0, (ev27 x).trans h⟩
/-- (*pontage/debtqueue.Queue).Len -/
noncomputable def debtqueue_Queue_LenC : Con := ⟨⟨[.ptr 0 []], [.box (.cons (.sl (.cons (.cons (.int .u64) (.cons (.arr 4 (.int .u64)) (.cons (.arr 4 (.int .u64)) (.cons (.arr 4 (.int .u64)) (.cons (.arr 4 (.int .u64)) (.cons (.int .u64) .nil)))))) (.cons (.int .i64) .nil))) .nil) (.pair (.whole 1) (.pl .nil)), .row (.cons (.cons (.int .u64) (.cons (.arr 4 (.int .u64)) (.cons (.arr 4 (.int .u64)) (.cons (.arr 4 (.int .u64)) (.cons (.arr 4 (.int .u64)) (.cons (.int .u64) .nil)))))) (.cons (.int .i64) .nil))]⟩, ⟨[.pl (.int .i64)], [.box (.cons (.sl (.cons (.cons (.int .u64) (.cons (.arr 4 (.int .u64)) (.cons (.arr 4 (.int .u64)) (.cons (.arr 4 (.int .u64)) (.cons (.arr 4 (.int .u64)) (.cons (.int .u64) .nil)))))) (.cons (.int .i64) .nil))) .nil) (.pair (.whole 1) (.pl .nil)), .row (.cons (.cons (.int .u64) (.cons (.arr 4 (.int .u64)) (.cons (.arr 4 (.int .u64)) (.cons (.arr 4 (.int .u64)) (.cons (.arr 4 (.int .u64)) (.cons (.int .u64) .nil)))))) (.cons (.int .i64) .nil))]⟩, debtqueue_Queue_Len⟩
noncomputable def env62 : Env := mkEnv Try.prog tys eqs [] owns meths
def ann62 : Anns := fun _ _ => none
theorem ev62 : ∀ x, evalFn env62 ann62 62 ⟨[.ptr 0 []], [.box (.cons (.sl (.cons (.cons (.int .u64) (.cons (.arr 4 (.int .u64)) (.cons (.arr 4 (.int .u64)) (.cons (.arr 4 (.int .u64)) (.cons (.arr 4 (.int .u64)) (.cons (.int .u64) .nil)))))) (.cons (.int .i64) .nil))) .nil) (.pair (.whole 1) (.pl .nil)), .row (.cons (.cons (.int .u64) (.cons (.arr 4 (.int .u64)) (.cons (.arr 4 (.int .u64)) (.cons (.arr 4 (.int .u64)) (.cons (.arr 4 (.int .u64)) (.cons (.int .u64) .nil)))))) (.cons (.int .i64) .nil))]⟩ ⟨[.pl (.int .i64)], [.box (.cons (.sl (.cons (.cons (.int .u64) (.cons (.arr 4 (.int .u64)) (.cons (.arr 4 (.int .u64)) (.cons (.arr 4 (.int .u64)) (.cons (.arr 4 (.int .u64)) (.cons (.int .u64) .nil)))))) (.cons (.int .i64) .nil))) .nil) (.pair (.whole 1) (.pl .nil)), .row (.cons (.cons (.int .u64) (.cons (.arr 4 (.int .u64)) (.cons (.arr 4 (.int .u64)) (.cons (.arr 4 (.int .u64)) (.cons (.arr 4 (.int .u64)) (.cons (.int .u64) .nil)))))) (.cons (.int .i64) .nil))]⟩ 60 K0 x = debtqueue_Queue_Len x := by intro x; kernel_rfl
theorem ok62 : ConOk Try.prog 62 debtqueue_Queue_LenC := con_of_ev (E := env62) (envOk tysOk eqsOk (show HowsOk Try.prog [] from trivial) follows methsOk) noOddP fun x _ h => ⟨ann62, 60, K0, (ev62 x).trans h⟩
/-- (*pontage/debtqueue.Queue).Peek -/
noncomputable def debtqueue_Queue_PeekC : Con := ⟨⟨[.ptr 0 []], [.box (.cons (.sl (.cons (.cons (.int .u64) (.cons (.arr 4 (.int .u64)) (.cons (.arr 4 (.int .u64)) (.cons (.arr 4 (.int .u64)) (.cons (.arr 4 (.int .u64)) (.cons (.int .u64) .nil)))))) (.cons (.int .i64) .nil))) .nil) (.pair (.whole 1) (.pl .nil)), .row (.cons (.cons (.int .u64) (.cons (.arr 4 (.int .u64)) (.cons (.arr 4 (.int .u64)) (.cons (.arr 4 (.int .u64)) (.cons (.arr 4 (.int .u64)) (.cons (.int .u64) .nil)))))) (.cons (.int .i64) .nil))]⟩, ⟨[.pl (.cons (.int .u64) (.cons (.arr 4 (.int .u64)) (.cons (.arr 4 (.int .u64)) (.cons (.arr 4 (.int .u64)) (.cons (.arr 4 (.int .u64)) (.cons (.int .u64) .nil)))))), .pl .bool], [.box (.cons (.sl (.cons (.cons (.int .u64) (.cons (.arr 4 (.int .u64)) (.cons (.arr 4 (.int .u64)) (.cons (.arr 4 (.int .u64)) (.cons (.arr 4 (.int .u64)) (.cons (.int .u64) .nil)))))) (.cons (.int .i64) .nil))) .nil) (.pair (.whole 1) (.pl .nil)), .row (.cons (.cons (.int .u64) (.cons (.arr 4 (.int .u64)) (.cons (.arr 4 (.int .u64)) (.cons (.arr 4 (.int .u64)) (.cons (.arr 4 (.int .u64)) (.cons (.int .u64) .nil)))))) (.cons (.int .i64) .nil))]⟩, debtqueue_Queue_Peek⟩
noncomputable def env50 : Env := mkEnv Try.prog tys eqs [(62, .con debtqueue_Queue_LenC)] owns meths
def ann50 : Anns := fun _ _ => none
theorem ev50 : ∀ x, evalFn env50 ann50 50 ⟨[.ptr 0 []], [.box (.cons (.sl (.cons (.cons (.int .u64) (.cons (.arr 4 (.int .u64)) (.cons (.arr 4 (.int .u64)) (.cons (.arr 4 (.int .u64)) (.cons (.arr 4 (.int .u64)) (.cons (.int .u64) .nil)))))) (.cons (.int .i64) .nil))) .nil) (.pair (.whole 1) (.pl .nil)), .row (.cons (.cons (.int .u64) (.cons (.arr 4 (.int .u64)) (.cons (.arr 4 (.int .u64)) (.cons (.arr 4 (.int .u64)) (.cons (.arr 4 (.int .u64)) (.cons (.int .u64) .nil)))))) (.cons (.int .i64) .nil))]⟩ ⟨[.pl (.cons (.int .u64) (.cons (.arr 4 (.int .u64)) (.cons (.arr 4 (.int .u64)) (.cons (.arr 4 (.int .u64)) (.cons (.arr 4 (.int .u64)) (.cons (.int .u64) .nil)))))), .pl .bool], [.box (.cons (.sl (.cons (.cons (.int .u64) (.cons (.arr 4 (.int .u64)) (.cons (.arr 4 (.int .u64)) (.cons (.arr 4 (.int .u64)) (.cons (.arr 4 (.int .u64)) (.cons (.int .u64) .nil)))))) (.cons (.int .i64) .nil))) .nil) (.pair (.whole 1) (.pl .nil)), .row (.cons (.cons (.int .u64) (.cons (.arr 4 (.int .u64)) (.cons (.arr 4 (.int .u64)) (.cons (.arr 4 (.int .u64)) (.cons (.arr 4 (.int .u64)) (.cons (.int .u64) .nil)))))) (.cons (.int .i64) .nil))]⟩ 60 K0 x = debtqueue_Queue_Peek x := by intro x; kernel_rfl
theorem ok50 : ConOk Try.prog 50 debtqueue_Queue_PeekC := con_of_ev (E := env50) (envOk tysOk eqsOk (show HowsOk Try.prog [(62, .con debtqueue_Queue_LenC)] from (And.intro ok62 trivial)) follows methsOk) noOddP fun x _ h => ⟨ann50, 60, K0, (ev50 x).trans h⟩
/-- (*pontage/debtqueue.Queue).Pop -/
noncomputable def debtqueue_Queue_PopC : Con := ⟨⟨[.ptr 0 []], [.box (.cons (.sl (.cons (.cons (.int .u64) (.cons (.arr 4 (.int .u64)) (.cons (.arr 4 (.int .u64)) (.cons (.arr 4 (.int .u64)) (.cons (.arr 4 (.int .u64)) (.cons (.int .u64) .nil)))))) (.cons (.int .i64) .nil))) .nil) (.pair (.whole 1) (.pl .nil)), .row (.cons (.cons (.int .u64) (.cons (.arr 4 (.int .u64)) (.cons (.arr 4 (.int .u64)) (.cons (.arr 4 (.int .u64)) (.cons (.arr 4 (.int .u64)) (.cons (.int .u64) .nil)))))) (.cons (.int .i64) .nil))]⟩, ⟨[.pl (.cons (.int .u64) (.cons (.arr 4 (.int .u64)) (.cons (.arr 4 (.int .u64)) (.cons (.arr 4 (.int .u64)) (.cons (.arr 4 (.int .u64)) (.cons (.int .u64) .nil)))))), .pl .bool], [.box (.cons (.sl (.cons (.cons (.int .u64) (.cons (.arr 4 (.int .u64)) (.cons (.arr 4 (.int .u64)) (.cons (.arr 4 (.int .u64)) (.cons (.arr 4 (.int .u64)) (.cons (.int .u64) .nil)))))) (.cons (.int .i64) .nil))) .nil) (.pair (.whole 1) (.pl .nil)), .row (.cons (.cons (.int .u64) (.cons (.arr 4 (.int .u64)) (.cons (.arr 4 (.int .u64)) (.cons (.arr 4 (.int .u64)) (.cons (.arr 4 (.int .u64)) (.cons (.int .u64) .nil)))))) (.cons (.int .i64) .nil))]⟩, debtqueue_Queue_Pop⟩
noncomputable def env28 : Env := mkEnv Try.prog tys eqs [(50, .con debtqueue_Queue_PeekC), (51, .inl), (63, .inl), (80, .con debtqueue_items_LenC), (81, .con debtqueue_items_LessC), (82, .inl), (83, .inl)] owns meths
def ann28 : Anns := fun p c => match p, c with | [63, 3, 2, 51, 3, 4, 28], 0 => some (.tmpl ⟨[(.iface 92 (.ptr 0 [.fld 0])), .pl (.int .i64), .pl (.int .i64), .dead, .dead, .dead, .dead, .pl (.int .i64), .dead, .dead, .dead, .dead, .dead, .dead, .dead, .dead, .dead, .dead, .dead, .dead, .dead, .dead, .dead, .dead, .dead, .dead, .dead, .dead, .dead, .dead, .dead, .dead, .dead, .dead, .dead, .dead, .dead, .dead, .dead, .dead, .dead, .dead, .dead, .dead, .dead, .dead, .dead, .dead, (.iface 92 (.ptr 0 [.fld 0])), .dead, .dead, .dead, .dead, .dead, .dead, .dead, .dead, .dead, .dead, .dead, .dead, .dead, .dead, .dead, .dead, .ptr 2 [], .dead, .ptr 3 [], .pl .bool, .dead, .dead, .dead, .dead, .dead, .dead, .dead, .dead, .dead, .dead, .dead, .dead, .dead, .ptr 0 []], [.box (.cons (.sl (.cons (.cons (.int .u64) (.cons (.arr 4 (.int .u64)) (.cons (.arr 4 (.int .u64)) (.cons (.arr 4 (.int .u64)) (.cons (.arr 4 (.int .u64)) (.cons (.int .u64) .nil)))))) (.cons (.int .i64) .nil))) .nil) ((.pair (.whole 1) (.pl .nil))), .row (.cons (.cons (.int .u64) (.cons (.arr 4 (.int .u64)) (.cons (.arr 4 (.int .u64)) (.cons (.arr 4 (.int .u64)) (.cons (.arr 4 (.int .u64)) (.cons (.int .u64) .nil)))))) (.cons (.int .i64) .nil)), .box (.cons (.int .u64) (.cons (.arr 4 (.int .u64)) (.cons (.arr 4 (.int .u64)) (.cons (.arr 4 (.int .u64)) (.cons (.arr 4 (.int .u64)) (.cons (.int .u64) .nil)))))) (.pl (.cons (.int .u64) (.cons (.arr 4 (.int .u64)) (.cons (.arr 4 (.int .u64)) (.cons (.arr 4 (.int .u64)) (.cons (.arr 4 (.int .u64)) (.cons (.int .u64) .nil))))))), .box (.cons (.int .u64) (.cons (.arr 4 (.int .u64)) (.cons (.arr 4 (.int .u64)) (.cons (.arr 4 (.int .u64)) (.cons (.arr 4 (.int .u64)) (.cons (.int .u64) .nil)))))) (.pl (.cons (.int .u64) (.cons (.arr 4 (.int .u64)) (.cons (.arr 4 (.int .u64)) (.cons (.arr 4 (.int .u64)) (.cons (.arr 4 (.int .u64)) (.cons (.int .u64) .nil)))))))]⟩) | _, _ => none
theorem ev28 : ∀ x, evalFn env28 ann28 28 ⟨[.ptr 0 []], [.box (.cons (.sl (.cons (.cons (.int .u64) (.cons (.arr 4 (.int .u64)) (.cons (.arr 4 (.int .u64)) (.cons (.arr 4 (.int .u64)) (.cons (.arr 4 (.int .u64)) (.cons (.int .u64) .nil)))))) (.cons (.int .i64) .nil))) .nil) (.pair (.whole 1) (.pl .nil)), .row (.cons (.cons (.int .u64) (.cons (.arr 4 (.int .u64)) (.cons (.arr 4 (.int .u64)) (.cons (.arr 4 (.int .u64)) (.cons (.arr 4 (.int .u64)) (.cons (.int .u64) .nil)))))) (.cons (.int .i64) .nil))]⟩ ⟨[.pl (.cons (.int .u64) (.cons (.arr 4 (.int .u64)) (.cons (.arr 4 (.int .u64)) (.cons (.arr 4 (.int .u64)) (.cons (.arr 4 (.int .u64)) (.cons (.int .u64) .nil)))))), .pl .bool], [.box (.cons (.sl (.cons (.cons (.int .u64) (.cons (.arr 4 (.int .u64)) (.cons (.arr 4 (.int .u64)) (.cons (.arr 4 (.int .u64)) (.cons (.arr 4 (.int .u64)) (.cons (.int .u64) .nil)))))) (.cons (.int .i64) .nil))) .nil) (.pair (.whole 1) (.pl .nil)), .row (.cons (.cons (.int .u64) (.cons (.arr 4 (.int .u64)) (.cons (.arr 4 (.int .u64)) (.cons (.arr 4 (.int .u64)) (.cons (.arr 4 (.int .u64)) (.cons (.int .u64) .nil)))))) (.cons (.int .i64) .nil))]⟩ 140 K0 x = debtqueue_Queue_Pop x := by intro x; kernel_rfl
theorem ok28 : ConOk Try.prog 28 debtqueue_Queue_PopC := con_of_ev (E := env28) (envOk tysOk eqsOk (show HowsOk Try.prog [(50, .con debtqueue_Queue_PeekC), (51, .inl), (63, .inl), (80, .con debtqueue_items_LenC), (81, .con debtqueue_items_LessC), (82, .inl), (83, .inl)] from (And.intro ok50 (And.intro ok80 (And.intro ok81 trivial)))) follows methsOk) noOddP fun x _ h => ⟨ann28, 140, K0, (ev28 x).trans h⟩
/-- pontage/payout.Plan -/
noncomputable def payout_PlanC : Con := ⟨⟨[.pl (.sl (.cons (.int .u64) (.cons (.arr 4 (.int .u64)) (.cons (.arr 4 (.int .u64)) (.cons (.arr 4 (.int .u64)) (.cons (.arr 4 (.int .u64)) (.cons (.int .u64) .nil))))))), .pl (.arr 4 (.int .u64))], []⟩, ⟨[.pl (.sl (.cons (.int .u64) (.cons (.arr 4 (.int .u64)) .nil))), .pl (.int .i64)], []⟩, payout_Plan⟩
noncomputable def env10 : Env := mkEnv Try.prog tys eqs [(21, .con uint256_MinC), (22, .con uint256_SaturatingSubC), (26, .con poster_ValidC), (27, .con debtqueue_NewC), (28, .con debtqueue_Queue_PopC)] owns meths
def ann10 : Anns := fun p c => match p, c with | [1000000, 10], 9 => some (.join ⟨[.dead, .dead, .dead, .ptr 0 [], .dead, .dead, .whole 1, .ptr 2 [], .ptr 4 [], .dead, .dead, .dead, .dead, .dead, .dead, .dead, .dead, .dead, .dead, .dead, .dead, .dead, .dead, .pl (.arr 4 (.int .u64)), .pl (.arr 4 (.int .u64)), .pl .bool, .dead, .dead, .dead, .dead, .dead, .dead, .dead, .dead, .dead, .dead, .dead, .dead, .dead, .dead, .dead, .dead, .dead, .dead, .dead, .dead, .dead, .dead, .dead], [.box (.arr 4 (.int .u64)) (.pl (.arr 4 (.int .u64))), .row (.cons (.int .u64) (.cons (.arr 4 (.int .u64)) .nil)), .box (.cons (.sl (.cons (.cons (.int .u64) (.cons (.arr 4 (.int .u64)) (.cons (.arr 4 (.int .u64)) (.cons (.arr 4 (.int .u64)) (.cons (.arr 4 (.int .u64)) (.cons (.int .u64) .nil)))))) (.cons (.int .i64) .nil))) .nil) ((.pair (.whole 3) (.pl .nil))), .row (.cons (.cons (.int .u64) (.cons (.arr 4 (.int .u64)) (.cons (.arr 4 (.int .u64)) (.cons (.arr 4 (.int .u64)) (.cons (.arr 4 (.int .u64)) (.cons (.int .u64) .nil)))))) (.cons (.int .i64) .nil)), .box (.cons (.int .u64) (.cons (.arr 4 (.int .u64)) (.cons (.arr 4 (.int .u64)) (.cons (.arr 4 (.int .u64)) (.cons (.arr 4 (.int .u64)) (.cons (.int .u64) .nil)))))) (.pl (.cons (.int .u64) (.cons (.arr 4 (.int .u64)) (.cons (.arr 4 (.int .u64)) (.cons (.arr 4 (.int .u64)) (.cons (.arr 4 (.int .u64)) (.cons (.int .u64) .nil)))))))]⟩) | [10], 0 => some (.tmpl ⟨[.dead, .dead, .dead, .ptr 0 [], .dead, .dead, .whole 1, .ptr 2 [], .ptr 4 [], .pl .bool, .dead, .dead, .dead, .dead, .dead, .dead, .dead, .dead, .dead, .dead, .dead, .dead, .dead, .dead, .dead, .dead, .dead, .dead, .dead, .dead, .dead, .dead, .dead, .dead, .dead, .dead, .dead, .dead, .dead, .dead, .dead, .dead, .dead, .dead, .dead, .dead, .dead, .dead, .dead], [.box (.arr 4 (.int .u64)) (.pl (.arr 4 (.int .u64))), .row (.cons (.int .u64) (.cons (.arr 4 (.int .u64)) .nil)), .box (.cons (.sl (.cons (.cons (.int .u64) (.cons (.arr 4 (.int .u64)) (.cons (.arr 4 (.int .u64)) (.cons (.arr 4 (.int .u64)) (.cons (.arr 4 (.int .u64)) (.cons (.int .u64) .nil)))))) (.cons (.int .i64) .nil))) .nil) ((.pair (.whole 3) (.pl .nil))), .row (.cons (.cons (.int .u64) (.cons (.arr 4 (.int .u64)) (.cons (.arr 4 (.int .u64)) (.cons (.arr 4 (.int .u64)) (.cons (.arr 4 (.int .u64)) (.cons (.int .u64) .nil)))))) (.cons (.int .i64) .nil)), .box (.cons (.int .u64) (.cons (.arr 4 (.int .u64)) (.cons (.arr 4 (.int .u64)) (.cons (.arr 4 (.int .u64)) (.cons (.arr 4 (.int .u64)) (.cons (.int .u64) .nil)))))) (.pl (.cons (.int .u64) (.cons (.arr 4 (.int .u64)) (.cons (.arr 4 (.int .u64)) (.cons (.arr 4 (.int .u64)) (.cons (.arr 4 (.int .u64)) (.cons (.int .u64) .nil)))))))]⟩) | _, _ => none
theorem ev10 : ∀ x, evalFn env10 ann10 10 ⟨[.pl (.sl (.cons (.int .u64) (.cons (.arr 4 (.int .u64)) (.cons (.arr 4 (.int .u64)) (.cons (.arr 4 (.int .u64)) (.cons (.arr 4 (.int .u64)) (.cons (.int .u64) .nil))))))), .pl (.arr 4 (.int .u64))], []⟩ ⟨[.pl (.sl (.cons (.int .u64) (.cons (.arr 4 (.int .u64)) .nil))), .pl (.int .i64)], []⟩ 60 K0 x = payout_Plan x := by intro x; kernel_rfl
theorem ok10 : ConOk Try.prog 10 payout_PlanC := con_of_ev (E := env10) (envOk tysOk eqsOk (show HowsOk Try.prog [(21, .con uint256_MinC), (22, .con uint256_SaturatingSubC), (26, .con poster_ValidC), (27, .con debtqueue_NewC), (28, .con debtqueue_Queue_PopC)] from (And.intro ok21 (And.intro ok22 (And.intro ok26 (And.intro ok27 (And.intro ok28 trivial)))))) follows methsOk) noOddP fun x _ h => ⟨ann10, 60, K0, (ev10 x).trans h⟩
/-- pontage/pontagelaw20.awake -/
noncomputable def pontagelaw20_awakeC : Con := ⟨⟨[], []⟩, ⟨[.pl .bool], []⟩, pontagelaw20_awake⟩
noncomputable def env8 : Env := mkEnv Try.prog tys eqs [(10, .con payout_PlanC)] owns meths
def ann8 : Anns := fun _ _ => none
theorem ev8 : ∀ x, evalFn env8 ann8 8 ⟨[], []⟩ ⟨[.pl .bool], []⟩ 160 K0 x = pontagelaw20_awake x := by intro x; kernel_rfl
theorem ok8 : ConOk Try.prog 8 pontagelaw20_awakeC := con_of_ev (E := env8) (envOk tysOk eqsOk (show HowsOk Try.prog [(10, .con payout_PlanC)] from (And.intro ok10 trivial)) follows methsOk) noOddP fun x _ h => ⟨ann8, 160, K0, (ev8 x).trans h⟩
/-- pontage/pontageref1.norm -/
noncomputable def pontageref1_normC : Con := ⟨⟨[.pl (.sl (.int .i64))], []⟩, ⟨[.pl (.sl (.int .i64))], []⟩, pontageref1_norm⟩
noncomputable def env53 : Env := mkEnv Try.prog tys eqs [] owns meths
def ann53 : Anns := fun p c => match p, c with | [53], 0 => some (.tmpl ⟨[.pl (.sl (.int .i64)), .dead, .dead, .pl (.int .i64), .dead, .dead, .dead, .dead, .dead, .dead, .dead, .dead, .dead, .dead, .dead, .dead, .dead, .dead, .dead, .dead, .dead], []⟩) | _, _ => none
theorem ev53 : ∀ x, evalFn env53 ann53 53 ⟨[.pl (.sl (.int .i64))], []⟩ ⟨[.pl (.sl (.int .i64))], []⟩ 60 K0 x = pontageref1_norm x := by intro x; kernel_rfl
theorem ok53 : ConOk Try.prog 53 pontageref1_normC := con_of_ev (E := env53) (envOk tysOk eqsOk (show HowsOk Try.prog [] from trivial) follows methsOk) noOddP fun x _ h => ⟨ann53, 60, K0, (ev53 x).trans h⟩
/-- pontage/pontageref1.FromUint256 -/
noncomputable def pontageref1_FromUint256C : Con := ⟨⟨[.pl (.arr 4 (.int .u64))], []⟩, ⟨[.pl (.sl (.int .i64))], []⟩, pontageref1_FromUint256⟩
noncomputable def env31 : Env := mkEnv Try.prog tys eqs [(53, .con pontageref1_normC)] owns meths
def ann31 : Anns := fun p c => match p, c with | [31], 0 => some (.tmpl ⟨[.dead, .ptr 0 [], .dead, .whole 1, .pl (.int .i64), .dead, .dead, .dead, .dead, .dead, .dead, .dead, .dead, .dead, .dead, .dead, .dead, .dead, .dead, .dead, .dead, .dead, .dead, .dead, .dead, .dead], [.box (.arr 4 (.int .u64)) (.pl (.arr 4 (.int .u64))), .row (.int .i64)]⟩) | _, _ => none
theorem ev31 : ∀ x, evalFn env31 ann31 31 ⟨[.pl (.arr 4 (.int .u64))], []⟩ ⟨[.pl (.sl (.int .i64))], []⟩ 60 K0 x = pontageref1_FromUint256 x := by intro x; kernel_rfl
theorem ok31 : ConOk Try.prog 31 pontageref1_FromUint256C := con_of_ev (E := env31) (envOk tysOk eqsOk (show HowsOk Try.prog [(53, .con pontageref1_normC)] from (And.intro ok53 trivial)) follows methsOk) noOddP fun x _ h => ⟨ann31, 60, K0, (ev31 x).trans h⟩
/-- pontage/pontageref1.Add -/
noncomputable def pontageref1_AddC : Con := ⟨⟨[.pl (.sl (.int .i64)), .pl (.sl (.int .i64))], []⟩, ⟨[.pl (.sl (.int .i64))], []⟩, pontageref1_Add⟩
noncomputable def env40 : Env := mkEnv Try.prog tys eqs [] owns meths
def ann40 : Anns := fun p c => match p, c with | [1000000, 40], 7 => some (.join ⟨[.pl (.sl (.int .i64)), .pl (.sl (.int .i64)), .dead, .dead, .dead, .whole 0, .pl (.int .i64), .pl (.int .i64), .dead, .dead, .dead, .dead, .dead, .dead, .dead, .dead, .dead, .dead, .dead, .dead, .dead, .dead, .dead, .dead, .dead, .dead, .dead, .dead, .dead, .dead, .dead, .dead, .dead, .dead, .dead, .dead, .dead, .dead, .dead, .dead, .dead, .dead, .dead, .dead, .dead, .dead, .dead, .dead, .dead, .dead, .dead, .dead], [.row (.int .i64)]⟩) | [1000000, 40], 9 => some (.join ⟨[.pl (.sl (.int .i64)), .pl (.sl (.int .i64)), .dead, .dead, .dead, .whole 0, .pl (.int .i64), .pl (.int .i64), .dead, .dead, .dead, .dead, .dead, .dead, .dead, .dead, .dead, .dead, .dead, .dead, .dead, .dead, .dead, .dead, .dead, .dead, .dead, .dead, .dead, .dead, .dead, .dead, .dead, .dead, .dead, .dead, .dead, .dead, .dead, .dead, .dead, .dead, .dead, .dead, .dead, .dead, .dead, .dead, .dead, .dead, .dead, .dead], [.row (.int .i64)]⟩) | [40], 0 => some (.tmpl ⟨[.pl (.sl (.int .i64)), .pl (.sl (.int .i64)), .dead, .dead, .dead, .whole 0, .pl (.int .i64), .pl (.int .i64), .dead, .dead, .dead, .dead, .dead, .dead, .dead, .dead, .dead, .dead, .dead, .dead, .dead, .dead, .dead, .dead, .dead, .dead, .dead, .dead, .dead, .dead, .dead, .dead, .dead, .dead, .dead, .dead, .dead, .dead, .dead, .dead, .dead, .dead, .dead, .dead, .dead, .dead, .dead, .dead, .dead, .dead, .dead, .dead], [.row (.int .i64)]⟩) | _, _ => none
theorem ev40 : ∀ x, evalFn env40 ann40 40 ⟨[.pl (.sl (.int .i64)), .pl (.sl (.int .i64))], []⟩ ⟨[.pl (.sl (.int .i64))], []⟩ 60 K0 x = pontageref1_Add x := by intro x; kernel_rfl
theorem ok40 : ConOk Try.prog 40 pontageref1_AddC := con_of_ev (E := env40) (envOk tysOk eqsOk (show HowsOk Try.prog [] from trivial) follows methsOk) noOddP fun x _ h => ⟨ann40, 60, K0, (ev40 x).trans h⟩
/-- pontage/pontageref1.Cmp -/
noncomputable def pontageref1_CmpC : Con := ⟨⟨[.pl (.sl (.int .i64)), .pl (.sl (.int .i64))], []⟩, ⟨[.pl (.int .i64)], []⟩, pontageref1_Cmp⟩
noncomputable def env54 : Env := mkEnv Try.prog tys eqs [] owns meths
def ann54 : Anns := fun p c => match p, c with | [54], 0 => some (.tmpl ⟨[.pl (.sl (.int .i64)), .pl (.sl (.int .i64)), .dead, .dead, .dead, .pl (.int .i64), .dead, .dead, .dead, .dead, .dead, .dead, .dead, .dead, .dead, .dead, .dead, .dead, .dead, .dead, .dead, .dead, .dead, .dead, .dead, .dead, .dead, .dead, .dead, .dead, .dead, .dead, .dead, .dead, .dead, .dead, .dead, .dead, .dead, .dead, .dead], []⟩) | _, _ => none
theorem ev54 : ∀ x, evalFn env54 ann54 54 ⟨[.pl (.sl (.int .i64)), .pl (.sl (.int .i64))], []⟩ ⟨[.pl (.int .i64)], []⟩ 60 K0 x = pontageref1_Cmp x := by intro x; kernel_rfl
theorem ok54 : ConOk Try.prog 54 pontageref1_CmpC := con_of_ev (E := env54) (envOk tysOk eqsOk (show HowsOk Try.prog [] from trivial) follows methsOk) noOddP fun x _ h => ⟨ann54, 60, K0, (ev54 x).trans h⟩
/-- pontage/pontageref1.IsZero -/
noncomputable def pontageref1_IsZeroC : Con := ⟨⟨[.pl (.arr 4 (.int .u64))], []⟩, ⟨[.pl .bool], []⟩, pontageref1_IsZero⟩
noncomputable def env59 : Env := mkEnv Try.prog tys eqs [] owns meths
def ann59 : Anns := fun _ _ => none
theorem ev59 : ∀ x, evalFn env59 ann59 59 ⟨[.pl (.arr 4 (.int .u64))], []⟩ ⟨[.pl .bool], []⟩ 60 K0 x = pontageref1_IsZero x := by intro x; kernel_rfl
theorem ok59 : ConOk Try.prog 59 pontageref1_IsZeroC := con_of_ev (E := env59) (envOk tysOk eqsOk (show HowsOk Try.prog [] from trivial) follows methsOk) noOddP fun x _ h => ⟨ann59, 60, K0, (ev59 x).trans h⟩
/-- pontage/pontageref16.ValidPoster -/
noncomputable def pontageref16_ValidPosterC : Con := ⟨⟨[.pl (.cons (.int .u64) (.cons (.arr 4 (.int .u64)) (.cons (.arr 4 (.int .u64)) (.cons (.arr 4 (.int .u64)) (.cons (.arr 4 (.int .u64)) (.cons (.int .u64) .nil))))))], []⟩, ⟨[.pl .bool], []⟩, pontageref16_ValidPoster⟩
noncomputable def env52 : Env := mkEnv Try.prog tys eqs [(31, .con pontageref1_FromUint256C), (40, .con pontageref1_AddC), (54, .con pontageref1_CmpC), (59, .con pontageref1_IsZeroC)] owns meths
def ann52 : Anns := fun _ _ => none
theorem ev52 : ∀ x, evalFn env52 ann52 52 ⟨[.pl (.cons (.int .u64) (.cons (.arr 4 (.int .u64)) (.cons (.arr 4 (.int .u64)) (.cons (.arr 4 (.int .u64)) (.cons (.arr 4 (.int .u64)) (.cons (.int .u64) .nil))))))], []⟩ ⟨[.pl .bool], []⟩ 60 K0 x = pontageref16_ValidPoster x := by intro x; kernel_rfl
theorem ok52 : ConOk Try.prog 52 pontageref16_ValidPosterC := con_of_ev (E := env52) (envOk tysOk eqsOk (show HowsOk Try.prog [(31, .con pontageref1_FromUint256C), (40, .con pontageref1_AddC), (54, .con pontageref1_CmpC), (59, .con pontageref1_IsZeroC)] from (And.intro ok31 (And.intro ok40 (And.intro ok54 (And.intro ok59 trivial))))) follows methsOk) noOddP fun x _ h => ⟨ann52, 60, K0, (ev52 x).trans h⟩
/-- pontage/pontageref16.Valid -/
noncomputable def pontageref16_ValidC : Con := ⟨⟨[.pl (.sl (.cons (.int .u64) (.cons (.arr 4 (.int .u64)) (.cons (.arr 4 (.int .u64)) (.cons (.arr 4 (.int .u64)) (.cons (.arr 4 (.int .u64)) (.cons (.int .u64) .nil)))))))], []⟩, ⟨[.pl .bool], []⟩, pontageref16_Valid⟩
noncomputable def env29 : Env := mkEnv Try.prog tys eqs [(52, .con pontageref16_ValidPosterC)] owns meths
def ann29 : Anns := fun p c => match p, c with | [29], 0 => some (.tmpl ⟨[.pl (.sl (.cons (.int .u64) (.cons (.arr 4 (.int .u64)) (.cons (.arr 4 (.int .u64)) (.cons (.arr 4 (.int .u64)) (.cons (.arr 4 (.int .u64)) (.cons (.int .u64) .nil))))))), .dead, .dead, .pl (.int .i64), .dead, .dead, .dead, .dead, .dead, .dead, .dead, .dead, .dead, .dead, .dead, .dead, .dead, .dead, .dead, .dead, .dead, .dead, .dead, .dead, .dead, .dead, .dead, .dead, .dead, .dead, .dead, .dead, .dead, .dead, .dead, .dead, .dead], []⟩) | _, _ => none
theorem ev29 : ∀ x, evalFn env29 ann29 29 ⟨[.pl (.sl (.cons (.int .u64) (.cons (.arr 4 (.int .u64)) (.cons (.arr 4 (.int .u64)) (.cons (.arr 4 (.int .u64)) (.cons (.arr 4 (.int .u64)) (.cons (.int .u64) .nil)))))))], []⟩ ⟨[.pl .bool], []⟩ 60 K0 x = pontageref16_Valid x := by intro x; kernel_rfl
theorem ok29 : ConOk Try.prog 29 pontageref16_ValidC := con_of_ev (E := env29) (envOk tysOk eqsOk (show HowsOk Try.prog [(52, .con pontageref16_ValidPosterC)] from (And.intro ok52 trivial)) follows methsOk) noOddP fun x _ h => ⟨ann29, 60, K0, (ev29 x).trans h⟩
/-- pontage/pontageref16.Find -/
noncomputable def pontageref16_FindC : Con := ⟨⟨[.pl (.sl (.cons (.int .u64) (.cons (.arr 4 (.int .u64)) (.cons (.arr 4 (.int .u64)) (.cons (.arr 4 (.int .u64)) (.cons (.arr 4 (.int .u64)) (.cons (.int .u64) .nil))))))), .pl (.int .u64)], []⟩, ⟨[.pl (.int .i64)], []⟩, pontageref16_Find⟩
noncomputable def env44 : Env := mkEnv Try.prog tys eqs [] owns meths
def ann44 : Anns := fun p c => match p, c with | [44], 0 => some (.tmpl ⟨[.pl (.sl (.cons (.int .u64) (.cons (.arr 4 (.int .u64)) (.cons (.arr 4 (.int .u64)) (.cons (.arr 4 (.int .u64)) (.cons (.arr 4 (.int .u64)) (.cons (.int .u64) .nil))))))), .pl (.int .u64), .dead, .dead, .dead, .pl (.int .i64), .dead, .dead, .dead, .dead, .dead, .dead, .dead, .dead, .dead, .dead, .dead, .dead, .dead, .dead], []⟩) | _, _ => none
theorem ev44 : ∀ x, evalFn env44 ann44 44 ⟨[.pl (.sl (.cons (.int .u64) (.cons (.arr 4 (.int .u64)) (.cons (.arr 4 (.int .u64)) (.cons (.arr 4 (.int .u64)) (.cons (.arr 4 (.int .u64)) (.cons (.int .u64) .nil))))))), .pl (.int .u64)], []⟩ ⟨[.pl (.int .i64)], []⟩ 60 K0 x = pontageref16_Find x := by intro x; kernel_rfl
theorem ok44 : ConOk Try.prog 44 pontageref16_FindC := con_of_ev (E := env44) (envOk tysOk eqsOk (show HowsOk Try.prog [] from trivial) follows methsOk) noOddP fun x _ h => ⟨ann44, 60, K0, (ev44 x).trans h⟩
/-- pontage/pontageref16.Add -/
noncomputable def pontageref16_AddC : Con := ⟨⟨[.pl (.sl (.cons (.int .u64) (.cons (.arr 4 (.int .u64)) (.cons (.arr 4 (.int .u64)) (.cons (.arr 4 (.int .u64)) (.cons (.arr 4 (.int .u64)) (.cons (.int .u64) .nil))))))), .pl (.int .u64)], []⟩, ⟨[.pl (.sl (.cons (.int .u64) (.cons (.arr 4 (.int .u64)) (.cons (.arr 4 (.int .u64)) (.cons (.arr 4 (.int .u64)) (.cons (.arr 4 (.int .u64)) (.cons (.int .u64) .nil))))))), .pl (.int .i64)], []⟩, pontageref16_Add⟩
noncomputable def env23 : Env := mkEnv Try.prog tys eqs [(29, .con pontageref16_ValidC), (44, .con pontageref16_FindC)] owns meths
def ann23 : Anns := fun p c => match p, c with | [1000000, 23], 14 => some (.join ⟨[.pl (.sl (.cons (.int .u64) (.cons (.arr 4 (.int .u64)) (.cons (.arr 4 (.int .u64)) (.cons (.arr 4 (.int .u64)) (.cons (.arr 4 (.int .u64)) (.cons (.int .u64) .nil))))))), .pl (.int .u64), .dead, .dead, .dead, .dead, .whole 0, .pl .bool, .pl (.int .i64), .dead, .dead, .dead, .dead, .dead, .dead, .dead, .dead, .dead, .dead, .dead, .dead, .dead, .dead, .dead, .dead, .dead, .dead, .dead, .dead, .dead, .dead, .dead, .dead, .dead, .dead, .dead, .dead, .dead, .dead, .pl .bool, .dead, .dead, .dead, .dead, .dead, .dead, .dead, .dead, .dead, .dead, .dead, .dead, .dead, .dead, .dead, .dead, .dead, .dead, .dead, .dead], [.row (.cons (.int .u64) (.cons (.arr 4 (.int .u64)) (.cons (.arr 4 (.int .u64)) (.cons (.arr 4 (.int .u64)) (.cons (.arr 4 (.int .u64)) (.cons (.int .u64) .nil))))))]⟩) | [1000000, 23], 4 => some (.join ⟨[.pl (.sl (.cons (.int .u64) (.cons (.arr 4 (.int .u64)) (.cons (.arr 4 (.int .u64)) (.cons (.arr 4 (.int .u64)) (.cons (.arr 4 (.int .u64)) (.cons (.int .u64) .nil))))))), .pl (.int .u64), .dead, .dead, .dead, .dead, .dead, .dead, .dead, .dead, .dead, .dead, .dead, .dead, .dead, .dead, .dead, .dead, .dead, .dead, .dead, .dead, .dead, .dead, .dead, .dead, .dead, .dead, .dead, .dead, .dead, .dead, .dead, .dead, .dead, .dead, .dead, .dead, .dead, .dead, .dead, .dead, .dead, .dead, .dead, .dead, .dead, .dead, .dead, .dead, .dead, .dead, .dead, .dead, .dead, .dead, .dead, .dead, .dead, .dead], []⟩) | [23], 0 => some (.tmpl ⟨[.pl (.sl (.cons (.int .u64) (.cons (.arr 4 (.int .u64)) (.cons (.arr 4 (.int .u64)) (.cons (.arr 4 (.int .u64)) (.cons (.arr 4 (.int .u64)) (.cons (.int .u64) .nil))))))), .pl (.int .u64), .dead, .dead, .dead, .dead, .whole 0, .pl .bool, .pl (.int .i64), .dead, .dead, .dead, .dead, .dead, .dead, .dead, .dead, .dead, .dead, .dead, .dead, .dead, .dead, .dead, .dead, .dead, .dead, .dead, .dead, .dead, .dead, .dead, .dead, .dead, .dead, .dead, .dead, .dead, .dead, .dead, .dead, .dead, .dead, .dead, .dead, .dead, .dead, .dead, .dead, .dead, .dead, .dead, .dead, .dead, .dead, .dead, .dead, .dead, .dead, .dead], [.row (.cons (.int .u64) (.cons (.arr 4 (.int .u64)) (.cons (.arr 4 (.int .u64)) (.cons (.arr 4 (.int .u64)) (.cons (.arr 4 (.int .u64)) (.cons (.int .u64) .nil))))))]⟩) | _, _ => none
theorem ev23 : ∀ x, evalFn env23 ann23 23 ⟨[.pl (.sl (.cons (.int .u64) (.cons (.arr 4 (.int .u64)) (.cons (.arr 4 (.int .u64)) (.cons (.arr 4 (.int .u64)) (.cons (.arr 4 (.int .u64)) (.cons (.int .u64) .nil))))))), .pl (.int .u64)], []⟩ ⟨[.pl (.sl (.cons (.int .u64) (.cons (.arr 4 (.int .u64)) (.cons (.arr 4 (.int .u64)) (.cons (.arr 4 (.int .u64)) (.cons (.arr 4 (.int .u64)) (.cons (.int .u64) .nil))))))), .pl (.int .i64)], []⟩ 60 K0 x = pontageref16_Add x := by intro x; kernel_rfl
theorem ok23 : ConOk Try.prog 23 pontageref16_AddC := con_of_ev (E := env23) (envOk tysOk eqsOk (show HowsOk Try.prog [(29, .con pontageref16_ValidC), (44, .con pontageref16_FindC)] from (And.intro ok29 (And.intro ok44 trivial))) follows methsOk) noOddP fun x _ h => ⟨ann23, 60, K0, (ev23 x).trans h⟩
/-- pontage/pontageref1.ToUint256 -/
noncomputable def pontageref1_ToUint256C : Con := ⟨⟨[.pl (.sl (.int .i64))], []⟩, ⟨[.pl (.arr 4 (.int .u64))], []⟩, pontageref1_ToUint256⟩
noncomputable def env33 : Env := mkEnv Try.prog tys eqs [] owns meths
def ann33 : Anns := fun p c => match p, c with | [1000000, 33], 6 => some (.join ⟨[.pl (.sl (.int .i64)), .dead, .ptr 0 [], .ptr 1 [], .pl (.int .i64), .dead, .dead, .dead, .dead, .dead, .pl (.int .i64), .pl .bool, .dead, .dead, .dead, .dead, .dead, .dead, .dead, .dead, .dead, .dead, .dead, .dead, .dead, .dead, .dead, .dead, .dead, .dead, .dead, .dead, .dead, .dead], [.box (.arr 4 (.int .u64)) (.pl (.arr 4 (.int .u64))), .box (.arr 4 (.int .u64)) (.pl (.arr 4 (.int .u64)))]⟩) | [33], 0 => some (.tmpl ⟨[.pl (.sl (.int .i64)), .dead, .ptr 0 [], .ptr 1 [], .pl (.int .i64), .dead, .dead, .dead, .dead, .dead, .dead, .dead, .dead, .dead, .dead, .dead, .dead, .dead, .dead, .dead, .dead, .dead, .dead, .dead, .dead, .dead, .dead, .dead, .dead, .dead, .dead, .dead, .dead, .dead], [.box (.arr 4 (.int .u64)) (.pl (.arr 4 (.int .u64))), .box (.arr 4 (.int .u64)) (.pl (.arr 4 (.int .u64)))]⟩) | _, _ => none
theorem ev33 : ∀ x, evalFn env33 ann33 33 ⟨[.pl (.sl (.int .i64))], []⟩ ⟨[.pl (.arr 4 (.int .u64))], []⟩ 60 K0 x = pontageref1_ToUint256 x := by intro x; kernel_rfl
theorem ok33 : ConOk Try.prog 33 pontageref1_ToUint256C := con_of_ev (E := env33) (envOk tysOk eqsOk (show HowsOk Try.prog [] from trivial) follows methsOk) noOddP fun x _ h => ⟨ann33, 60, K0, (ev33 x).trans h⟩
/-- pontage/pontageref1.Sub -/
noncomputable def pontageref1_SubC : Con := ⟨⟨[.pl (.sl (.int .i64)), .pl (.sl (.int .i64))], []⟩, ⟨[.pl (.sl (.int .i64))], []⟩, pontageref1_Sub⟩
noncomputable def env34 : Env := mkEnv Try.prog tys eqs [(53, .inl)] owns meths
def ann34 : Anns := fun p c => match p, c with | [1000000, 34], 10 => some (.join ⟨[.pl (.sl (.int .i64)), .pl (.sl (.int .i64)), .dead, .dead, .dead, .whole 0, .dead, .pl (.int .i64), .pl (.int .i64), .dead, .dead, .dead, .dead, .dead, .dead, .dead, .dead, .dead, .dead, .dead, .dead, .dead, .dead, .dead, .dead, .dead, .dead, .dead, .dead, .dead, .dead, .dead, .dead, .dead, .dead, .dead, .dead, .dead, .dead, .dead, .dead, .dead, .dead, .dead], [.row (.int .i64)]⟩) | [34], 0 => some (.tmpl ⟨[.pl (.sl (.int .i64)), .pl (.sl (.int .i64)), .dead, .dead, .dead, .whole 0, .pl (.int .i64), .pl (.int .i64), .dead, .dead, .dead, .dead, .dead, .dead, .dead, .dead, .dead, .dead, .dead, .dead, .dead, .dead, .dead, .dead, .dead, .dead, .dead, .dead, .dead, .dead, .dead, .dead, .dead, .dead, .dead, .dead, .dead, .dead, .dead, .dead, .dead, .dead, .dead, .dead], [.row (.int .i64)]⟩) | [53, 14, 1, 34], 0 => some (.tmpl ⟨[.whole 0, .dead, .dead, .pl (.int .i64), .dead, .dead, .dead, .dead, .dead, .dead, .dead, .dead, .dead, .dead, .dead, .dead, .dead, .dead, .dead, .dead, .dead, .dead, .dead, .dead, .dead, .dead, .dead, .dead, .dead, .dead, .dead, .dead, .dead, .dead, .dead, .dead, .dead, .dead, .dead, .dead, .dead, .dead, .dead, .dead, .dead, .dead, .dead, .dead, .dead, .dead, .dead, .dead, .dead, .dead, .dead, .dead, .dead, .dead, .dead, .dead, .dead, .dead, .dead, .dead, .dead], [.row (.int .i64)]⟩) | _, _ => none
theorem ev34 : ∀ x, evalFresh env34 ann34 34 ⟨[.pl (.sl (.int .i64)), .pl (.sl (.int .i64))], []⟩ ⟨[.pl (.sl (.int .i64))], []⟩ 80 K0 x = pontageref1_Sub x := by intro x; kernel_rfl
theorem okf34 : ConFresh Try.prog 34 pontageref1_SubC := fresh_of_ev (E := env34) (envOk tysOk eqsOk (show HowsOk Try.prog [(53, .inl)] from trivial) follows methsOk) noOddP fun x _ h => ⟨ann34, 80, K0, (ev34 x).trans h⟩
theorem ok34 : ConOk Try.prog 34 pontageref1_SubC := okf34.con
/-- pontage/pontageref1.Sub256 -/
noncomputable def pontageref1_Sub256C : Con := ⟨⟨[.pl (.arr 4 (.int .u64)), .pl (.arr 4 (.int .u64))], []⟩, ⟨[.pl (.arr 4 (.int .u64)), .pl (.int .i64)], []⟩, pontageref1_Sub256⟩
noncomputable def env57 : Env := mkEnv Try.prog tys eqs [(31, .con pontageref1_FromUint256C), (33, .con pontageref1_ToUint256C), (34, .fresh pontageref1_SubC), (54, .con pontageref1_CmpC)] owns meths
def ann57 : Anns := fun _ _ => none
theorem ev57 : ∀ x, evalFn env57 ann57 57 ⟨[.pl (.arr 4 (.int .u64)), .pl (.arr 4 (.int .u64))], []⟩ ⟨[.pl (.arr 4 (.int .u64)), .pl (.int .i64)], []⟩ 60 K0 x = pontageref1_Sub256 x := by intro x; kernel_rfl
theorem ok57 : ConOk Try.prog 57 pontageref1_Sub256C := con_of_ev (E := env57) (envOk tysOk eqsOk (show HowsOk Try.prog [(31, .con pontageref1_FromUint256C), (33, .con pontageref1_ToUint256C), (34, .fresh pontageref1_SubC), (54, .con pontageref1_CmpC)] from (And.intro ok31 (And.intro ok33 (And.intro okf34 (And.intro ok54 trivial))))) follows methsOk) noOddP fun x _ h => ⟨ann57, 60, K0, (ev57 x).trans h⟩
/-- pontage/pontageref1.Fits -/
noncomputable def pontageref1_FitsC : Con := ⟨⟨[.pl (.sl (.int .i64))], []⟩, ⟨[.pl .bool], []⟩, pontageref1_Fits⟩
noncomputable def env56 : Env := mkEnv Try.prog tys eqs [] owns meths
def ann56 : Anns := fun _ _ => none
theorem ev56 : ∀ x, evalFn env56 ann56 56 ⟨[.pl (.sl (.int .i64))], []⟩ ⟨[.pl .bool], []⟩ 60 K0 x = pontageref1_Fits x := by intro x; kernel_rfl
theorem ok56 : ConOk Try.prog 56 pontageref1_FitsC := con_of_ev (E := env56) (envOk tysOk eqsOk (show HowsOk Try.prog [] from trivial) follows methsOk) noOddP fun x _ h => ⟨ann56, 60, K0, (ev56 x).trans h⟩
/-- pontage/pontageref1.Checked -/
noncomputable def pontageref1_CheckedC : Con := ⟨⟨[.pl (.sl (.int .i64))], []⟩, ⟨[.pl (.arr 4 (.int .u64)), .pl (.int .i64)], []⟩, pontageref1_Checked⟩
noncomputable def env41 : Env := mkEnv Try.prog tys eqs [(33, .con pontageref1_ToUint256C), (56, .con pontageref1_FitsC)] owns meths
def ann41 : Anns := fun _ _ => none
theorem ev41 : ∀ x, evalFn env41 ann41 41 ⟨[.pl (.sl (.int .i64))], []⟩ ⟨[.pl (.arr 4 (.int .u64)), .pl (.int .i64)], []⟩ 60 K0 x = pontageref1_Checked x := by intro x; kernel_rfl
theorem ok41 : ConOk Try.prog 41 pontageref1_CheckedC := con_of_ev (E := env41) (envOk tysOk eqsOk (show HowsOk Try.prog [(33, .con pontageref1_ToUint256C), (56, .con pontageref1_FitsC)] from (And.intro ok33 (And.intro ok56 trivial))) follows methsOk) noOddP fun x _ h => ⟨ann41, 60, K0, (ev41 x).trans h⟩
/-- pontage/pontageref1.Add256 -/
noncomputable def pontageref1_Add256C : Con := ⟨⟨[.pl (.arr 4 (.int .u64)), .pl (.arr 4 (.int .u64))], []⟩, ⟨[.pl (.arr 4 (.int .u64)), .pl (.int .i64)], []⟩, pontageref1_Add256⟩
noncomputable def env58 : Env := mkEnv Try.prog tys eqs [(31, .con pontageref1_FromUint256C), (40, .con pontageref1_AddC), (41, .con pontageref1_CheckedC)] owns meths
def ann58 : Anns := fun _ _ => none
theorem ev58 : ∀ x, evalFn env58 ann58 58 ⟨[.pl (.arr 4 (.int .u64)), .pl (.arr 4 (.int .u64))], []⟩ ⟨[.pl (.arr 4 (.int .u64)), .pl (.int .i64)], []⟩ 60 K0 x = pontageref1_Add256 x := by intro x; kernel_rfl
theorem ok58 : ConOk Try.prog 58 pontageref1_Add256C := con_of_ev (E := env58) (envOk tysOk eqsOk (show HowsOk Try.prog [(31, .con pontageref1_FromUint256C), (40, .con pontageref1_AddC), (41, .con pontageref1_CheckedC)] from (And.intro ok31 (And.intro ok40 (And.intro ok41 trivial)))) follows methsOk) noOddP fun x _ h => ⟨ann58, 60, K0, (ev58 x).trans h⟩
/-- pontage/pontageref16.Settle -/
noncomputable def pontageref16_SettleC : Con := ⟨⟨[.pl (.sl (.cons (.int .u64) (.cons (.arr 4 (.int .u64)) (.cons (.arr 4 (.int .u64)) (.cons (.arr 4 (.int .u64)) (.cons (.arr 4 (.int .u64)) (.cons (.int .u64) .nil))))))), .pl (.int .u64), .pl (.arr 4 (.int .u64))], []⟩, ⟨[.pl (.sl (.cons (.int .u64) (.cons (.arr 4 (.int .u64)) (.cons (.arr 4 (.int .u64)) (.cons (.arr 4 (.int .u64)) (.cons (.arr 4 (.int .u64)) (.cons (.int .u64) .nil))))))), .pl (.int .i64)], []⟩, pontageref16_Settle⟩
noncomputable def env42 : Env := mkEnv Try.prog tys eqs [(29, .con pontageref16_ValidC), (44, .con pontageref16_FindC), (57, .con pontageref1_Sub256C), (58, .con pontageref1_Add256C), (59, .con pontageref1_IsZeroC)] owns meths
def ann42 : Anns := fun _ _ => none
theorem ev42 : ∀ x, evalFn env42 ann42 42 ⟨[.pl (.sl (.cons (.int .u64) (.cons (.arr 4 (.int .u64)) (.cons (.arr 4 (.int .u64)) (.cons (.arr 4 (.int .u64)) (.cons (.arr 4 (.int .u64)) (.cons (.int .u64) .nil))))))), .pl (.int .u64), .pl (.arr 4 (.int .u64))], []⟩ ⟨[.pl (.sl (.cons (.int .u64) (.cons (.arr 4 (.int .u64)) (.cons (.arr 4 (.int .u64)) (.cons (.arr 4 (.int .u64)) (.cons (.arr 4 (.int .u64)) (.cons (.int .u64) .nil))))))), .pl (.int .i64)], []⟩ 60 K0 x = pontageref16_Settle x := by intro x; kernel_rfl
theorem ok42 : ConOk Try.prog 42 pontageref16_SettleC := con_of_ev (E := env42) (envOk tysOk eqsOk (show HowsOk Try.prog [(29, .con pontageref16_ValidC), (44, .con pontageref16_FindC), (57, .con pontageref1_Sub256C), (58, .con pontageref1_Add256C), (59, .con pontageref1_IsZeroC)] from (And.intro ok29 (And.intro ok44 (And.intro ok57 (And.intro ok58 (And.intro ok59 trivial)))))) follows methsOk) noOddP fun x _ h => ⟨ann42, 60, K0, (ev42 x).trans h⟩
/-- pontage/pontageref16.Accrue -/
noncomputable def pontageref16_AccrueC : Con := ⟨⟨[.pl (.sl (.cons (.int .u64) (.cons (.arr 4 (.int .u64)) (.cons (.arr 4 (.int .u64)) (.cons (.arr 4 (.int .u64)) (.cons (.arr 4 (.int .u64)) (.cons (.int .u64) .nil))))))), .pl (.int .u64), .pl (.arr 4 (.int .u64)), .pl (.arr 4 (.int .u64)), .pl (.int .u64)], []⟩, ⟨[.pl (.sl (.cons (.int .u64) (.cons (.arr 4 (.int .u64)) (.cons (.arr 4 (.int .u64)) (.cons (.arr 4 (.int .u64)) (.cons (.arr 4 (.int .u64)) (.cons (.int .u64) .nil))))))), .pl (.int .i64)], []⟩, pontageref16_Accrue⟩
noncomputable def env45 : Env := mkEnv Try.prog tys eqs [(29, .con pontageref16_ValidC), (31, .con pontageref1_FromUint256C), (33, .con pontageref1_ToUint256C), (40, .con pontageref1_AddC), (44, .con pontageref16_FindC), (56, .con pontageref1_FitsC), (59, .con pontageref1_IsZeroC)] owns meths
def ann45 : Anns := fun p c => match p, c with | [1000000, 45], 4 => some (.join ⟨[.pl (.sl (.cons (.int .u64) (.cons (.arr 4 (.int .u64)) (.cons (.arr 4 (.int .u64)) (.cons (.arr 4 (.int .u64)) (.cons (.arr 4 (.int .u64)) (.cons (.int .u64) .nil))))))), .pl (.int .u64), .dead, .dead, .pl (.int .u64), .dead, .dead, .ptr 0 [], .ptr 1 [], .dead, .dead, .dead, .dead, .dead, .dead, .dead, .dead, .dead, .dead, .dead, .dead, .dead, .dead, .dead, .dead, .dead, .dead, .dead, .dead, .dead, .dead, .dead, .dead, .dead, .dead, .dead, .dead, .dead, .dead, .dead, .dead, .dead, .dead, .dead, .dead, .dead, .dead, .dead, .dead, .dead, .dead, .dead, .dead, .dead, .dead, .dead, .dead, .dead, .dead, .dead, .dead, .dead, .dead, .dead, .dead, .dead, .dead, .dead, .dead, .dead, .dead, .dead, .dead, .dead, .dead, .dead, .dead, .dead, .dead, .dead, .dead, .dead, .dead, .dead, .dead, .dead, .dead, .dead, .dead, .dead, .dead, .dead, .dead, .dead, .dead, .dead, .dead, .dead, .dead, .dead, .dead, .dead, .dead, .dead, .dead, .dead], [.box (.arr 4 (.int .u64)) (.pl (.arr 4 (.int .u64))), .box (.arr 4 (.int .u64)) (.pl (.arr 4 (.int .u64)))]⟩) | _, _ => none
theorem ev45 : ∀ x, evalFn env45 ann45 45 ⟨[.pl (.sl (.cons (.int .u64) (.cons (.arr 4 (.int .u64)) (.cons (.arr 4 (.int .u64)) (.cons (.arr 4 (.int .u64)) (.cons (.arr 4 (.int .u64)) (.cons (.int .u64) .nil))))))), .pl (.int .u64), .pl (.arr 4 (.int .u64)), .pl (.arr 4 (.int .u64)), .pl (.int .u64)], []⟩ ⟨[.pl (.sl (.cons (.int .u64) (.cons (.arr 4 (.int .u64)) (.cons (.arr 4 (.int .u64)) (.cons (.arr 4 (.int .u64)) (.cons (.arr 4 (.int .u64)) (.cons (.int .u64) .nil))))))), .pl (.int .i64)], []⟩ 60 K0 x = pontageref16_Accrue x := by intro x; kernel_rfl
theorem ok45 : ConOk Try.prog 45 pontageref16_AccrueC := con_of_ev (E := env45) (envOk tysOk eqsOk (show HowsOk Try.prog [(29, .con pontageref16_ValidC), (31, .con pontageref1_FromUint256C), (33, .con pontageref1_ToUint256C), (40, .con pontageref1_AddC), (44, .con pontageref16_FindC), (56, .con pontageref1_FitsC), (59, .con pontageref1_IsZeroC)] from (And.intro ok29 (And.intro ok31 (And.intro ok33 (And.intro ok40 (And.intro ok44 (And.intro ok56 (And.intro ok59 trivial)))))))) follows methsOk) noOddP fun x _ h => ⟨ann45, 60, K0, (ev45 x).trans h⟩
/-- pontage/pontagelaw16.ReferenceApply -/
noncomputable def pontagelaw16_ReferenceApplyC : Con := ⟨⟨[.pl (.sl (.cons (.int .u64) (.cons (.arr 4 (.int .u64)) (.cons (.arr 4 (.int .u64)) (.cons (.arr 4 (.int .u64)) (.cons (.arr 4 (.int .u64)) (.cons (.int .u64) .nil))))))), .pl (.cons (.int .i64) (.cons (.int .u64) (.cons (.arr 4 (.int .u64)) (.cons (.arr 4 (.int .u64)) (.cons .bool (.cons .bool (.cons (.int .u64) .nil)))))))], []⟩, ⟨[.pl (.sl (.cons (.int .u64) (.cons (.arr 4 (.int .u64)) (.cons (.arr 4 (.int .u64)) (.cons (.arr 4 (.int .u64)) (.cons (.arr 4 (.int .u64)) (.cons (.int .u64) .nil))))))), .pl (.int .i64)], []⟩, pontagelaw16_ReferenceApply⟩
noncomputable def env24 : Env := mkEnv Try.prog tys eqs [(23, .con pontageref16_AddC), (42, .con pontageref16_SettleC), (44, .con pontageref16_FindC), (45, .con pontageref16_AccrueC)] owns meths
def ann24 : Anns := fun p c => match p, c with | [1000000, 24], 6 => some (.join ⟨[.pl (.sl (.cons (.int .u64) (.cons (.arr 4 (.int .u64)) (.cons (.arr 4 (.int .u64)) (.cons (.arr 4 (.int .u64)) (.cons (.arr 4 (.int .u64)) (.cons (.int .u64) .nil))))))), .dead, .dead, .ptr 0 [], .dead, .dead, .ptr 1 [], .dead, .dead, .dead, .dead, .dead, .dead, .dead, .dead, .dead, .dead, .dead, .dead, .dead, .dead, .dead, .dead, .dead, .dead, .dead, .dead, .dead, .dead, .dead, .dead, .dead, .dead, .dead, .dead, .dead, .dead, .dead, .dead, .dead, .dead, .dead, .dead, .dead, .dead, .dead, .dead, .dead, .dead, .dead, .dead, .dead, .dead, .dead, .dead, .dead, .dead, .dead], [.box (.cons (.int .i64) (.cons (.int .u64) (.cons (.arr 4 (.int .u64)) (.cons (.arr 4 (.int .u64)) (.cons .bool (.cons .bool (.cons (.int .u64) .nil))))))) (.pl (.cons (.int .i64) (.cons (.int .u64) (.cons (.arr 4 (.int .u64)) (.cons (.arr 4 (.int .u64)) (.cons .bool (.cons .bool (.cons (.int .u64) .nil)))))))), .box (.arr 4 (.int .u64)) (.pl (.arr 4 (.int .u64)))]⟩) | _, _ => none
theorem ev24 : ∀ x, evalFn env24 ann24 24 ⟨[.pl (.sl (.cons (.int .u64) (.cons (.arr 4 (.int .u64)) (.cons (.arr 4 (.int .u64)) (.cons (.arr 4 (.int .u64)) (.cons (.arr 4 (.int .u64)) (.cons (.int .u64) .nil))))))), .pl (.cons (.int .i64) (.cons (.int .u64) (.cons (.arr 4 (.int .u64)) (.cons (.arr 4 (.int .u64)) (.cons .bool (.cons .bool (.cons (.int .u64) .nil)))))))], []⟩ ⟨[.pl (.sl (.cons (.int .u64) (.cons (.arr 4 (.int .u64)) (.cons (.arr 4 (.int .u64)) (.cons (.arr 4 (.int .u64)) (.cons (.arr 4 (.int .u64)) (.cons (.int .u64) .nil))))))), .pl (.int .i64)], []⟩ 160 K0 x = pontagelaw16_ReferenceApply x := by intro x; kernel_rfl
theorem ok24 : ConOk Try.prog 24 pontagelaw16_ReferenceApplyC := con_of_ev (E := env24) (envOk tysOk eqsOk (show HowsOk Try.prog [(23, .con pontageref16_AddC), (42, .con pontageref16_SettleC), (44, .con pontageref16_FindC), (45, .con pontageref16_AccrueC)] from (And.intro ok23 (And.intro ok42 (And.intro ok44 (And.intro ok45 trivial))))) follows methsOk) noOddP fun x _ h => ⟨ann24, 160, K0, (ev24 x).trans h⟩
/-- pontage/pontagelaw0.Mod -/
noncomputable def pontagelaw0_ModC : Con := ⟨⟨[.pl (.int .i64), .pl (.int .i64)], []⟩, ⟨[.pl (.int .i64)], []⟩, pontagelaw0_Mod⟩
noncomputable def env46 : Env := mkEnv Try.prog tys eqs [] owns meths
def ann46 : Anns := fun _ _ => none
theorem ev46 : ∀ x, evalFn env46 ann46 46 ⟨[.pl (.int .i64), .pl (.int .i64)], []⟩ ⟨[.pl (.int .i64)], []⟩ 160 K0 x = pontagelaw0_Mod x := by intro x; kernel_rfl
theorem ok46 : ConOk Try.prog 46 pontagelaw0_ModC := con_of_ev (E := env46) (envOk tysOk eqsOk (show HowsOk Try.prog [] from trivial) follows methsOk) noOddP fun x _ h => ⟨ann46, 160, K0, (ev46 x).trans h⟩
/-- pontage/pontagelaw16.Normalize -/
noncomputable def pontagelaw16_NormalizeC : Con := ⟨⟨[.pl (.cons (.int .i64) (.cons (.int .u64) (.cons (.arr 4 (.int .u64)) (.cons (.arr 4 (.int .u64)) (.cons .bool (.cons .bool (.cons (.int .u64) .nil))))))), .pl (.int .i64)], []⟩, ⟨[.pl (.cons (.int .i64) (.cons (.int .u64) (.cons (.arr 4 (.int .u64)) (.cons (.arr 4 (.int .u64)) (.cons .bool (.cons .bool (.cons (.int .u64) .nil)))))))], []⟩, pontagelaw16_Normalize⟩
noncomputable def env25 : Env := mkEnv Try.prog tys eqs [(46, .con pontagelaw0_ModC)] owns meths
def ann25 : Anns := fun p c => match p, c with | [1000000, 25], 5 => some (.join ⟨[.dead, .pl (.int .i64), .ptr 0 [], .dead, .ptr 1 [], .dead, .dead, .dead, .dead, .dead, .dead, .dead, .dead, .dead, .dead, .dead, .dead, .dead, .dead, .dead, .dead, .dead, .dead, .dead, .dead, .dead, .dead, .dead, .dead, .dead, .dead, .dead, .dead, .dead, .dead, .dead, .dead, .dead, .dead], [.box (.cons (.int .i64) (.cons (.int .u64) (.cons (.arr 4 (.int .u64)) (.cons (.arr 4 (.int .u64)) (.cons .bool (.cons .bool (.cons (.int .u64) .nil))))))) (.pl (.cons (.int .i64) (.cons (.int .u64) (.cons (.arr 4 (.int .u64)) (.cons (.arr 4 (.int .u64)) (.cons .bool (.cons .bool (.cons (.int .u64) .nil)))))))), .box (.cons (.int .i64) (.cons (.int .u64) (.cons (.arr 4 (.int .u64)) (.cons (.arr 4 (.int .u64)) (.cons .bool (.cons .bool (.cons (.int .u64) .nil))))))) (.pl (.cons (.int .i64) (.cons (.int .u64) (.cons (.arr 4 (.int .u64)) (.cons (.arr 4 (.int .u64)) (.cons .bool (.cons .bool (.cons (.int .u64) .nil))))))))]⟩) | [1000000, 25], 7 => some (.join ⟨[.dead, .pl (.int .i64), .ptr 0 [], .dead, .ptr 1 [], .dead, .dead, .dead, .dead, .dead, .dead, .dead, .dead, .dead, .dead, .dead, .dead, .dead, .dead, .dead, .dead, .dead, .dead, .dead, .dead, .dead, .dead, .dead, .dead, .dead, .dead, .dead, .dead, .dead, .dead, .dead, .dead, .dead, .dead], [.box (.cons (.int .i64) (.cons (.int .u64) (.cons (.arr 4 (.int .u64)) (.cons (.arr 4 (.int .u64)) (.cons .bool (.cons .bool (.cons (.int .u64) .nil))))))) (.pl (.cons (.int .i64) (.cons (.int .u64) (.cons (.arr 4 (.int .u64)) (.cons (.arr 4 (.int .u64)) (.cons .bool (.cons .bool (.cons (.int .u64) .nil)))))))), .box (.cons (.int .i64) (.cons (.int .u64) (.cons (.arr 4 (.int .u64)) (.cons (.arr 4 (.int .u64)) (.cons .bool (.cons .bool (.cons (.int .u64) .nil))))))) (.pl (.cons (.int .i64) (.cons (.int .u64) (.cons (.arr 4 (.int .u64)) (.cons (.arr 4 (.int .u64)) (.cons .bool (.cons .bool (.cons (.int .u64) .nil))))))))]⟩) | _, _ => none
theorem ev25 : ∀ x, evalFn env25 ann25 25 ⟨[.pl (.cons (.int .i64) (.cons (.int .u64) (.cons (.arr 4 (.int .u64)) (.cons (.arr 4 (.int .u64)) (.cons .bool (.cons .bool (.cons (.int .u64) .nil))))))), .pl (.int .i64)], []⟩ ⟨[.pl (.cons (.int .i64) (.cons (.int .u64) (.cons (.arr 4 (.int .u64)) (.cons (.arr 4 (.int .u64)) (.cons .bool (.cons .bool (.cons (.int .u64) .nil)))))))], []⟩ 160 K0 x = pontagelaw16_Normalize x := by intro x; kernel_rfl
theorem ok25 : ConOk Try.prog 25 pontagelaw16_NormalizeC := con_of_ev (E := env25) (envOk tysOk eqsOk (show HowsOk Try.prog [(46, .con pontagelaw0_ModC)] from (And.intro ok46 trivial)) follows methsOk) noOddP fun x _ h => ⟨ann25, 160, K0, (ev25 x).trans h⟩
/-- pontage/pontagelaw16.Generate -/
noncomputable def pontagelaw16_GenerateC : Con := ⟨⟨[.pl (.sl (.cons (.int .i64) (.cons (.int .u64) (.cons (.arr 4 (.int .u64)) (.cons (.arr 4 (.int .u64)) (.cons .bool (.cons .bool (.cons (.int .u64) .nil))))))))], []⟩, ⟨[.pl (.sl (.cons (.int .u64) (.cons (.arr 4 (.int .u64)) (.cons (.arr 4 (.int .u64)) (.cons (.arr 4 (.int .u64)) (.cons (.arr 4 (.int .u64)) (.cons (.int .u64) .nil)))))))], []⟩, pontagelaw16_Generate⟩
noncomputable def env9 : Env := mkEnv Try.prog tys eqs [(23, .con pontageref16_AddC), (24, .con pontagelaw16_ReferenceApplyC), (25, .con pontagelaw16_NormalizeC)] owns meths
def ann9 : Anns := fun p c => match p, c with | [1000000, 9], 10 => some (.join ⟨[.pl (.sl (.cons (.int .i64) (.cons (.int .u64) (.cons (.arr 4 (.int .u64)) (.cons (.arr 4 (.int .u64)) (.cons .bool (.cons .bool (.cons (.int .u64) .nil)))))))), .dead, .dead, .pl (.sl (.cons (.int .u64) (.cons (.arr 4 (.int .u64)) (.cons (.arr 4 (.int .u64)) (.cons (.arr 4 (.int .u64)) (.cons (.arr 4 (.int .u64)) (.cons (.int .u64) .nil))))))), .dead, .pl (.int .i64), .dead, .dead, .dead, .dead, .dead, .dead, .dead, .dead, .dead, .dead, .dead, .dead, .dead, .dead, .dead, .dead, .dead, .pl (.int .i64), .pl .bool, .dead, .dead, .dead, .dead, .dead, .dead, .dead, .dead, .dead, .dead, .dead, .dead, .dead, .dead, .dead, .dead, .dead, .dead], []⟩) | [9], 0 => some (.tmpl ⟨[.pl (.sl (.cons (.int .i64) (.cons (.int .u64) (.cons (.arr 4 (.int .u64)) (.cons (.arr 4 (.int .u64)) (.cons .bool (.cons .bool (.cons (.int .u64) .nil)))))))), .dead, .dead, .pl (.sl (.cons (.int .u64) (.cons (.arr 4 (.int .u64)) (.cons (.arr 4 (.int .u64)) (.cons (.arr 4 (.int .u64)) (.cons (.arr 4 (.int .u64)) (.cons (.int .u64) .nil))))))), .pl (.int .u64), .dead, .dead, .dead, .dead, .dead, .dead, .dead, .dead, .dead, .dead, .dead, .dead, .dead, .dead, .dead, .dead, .dead, .dead, .dead, .dead, .dead, .dead, .dead, .dead, .dead, .dead, .dead, .dead, .dead, .dead, .dead, .dead, .dead, .dead, .dead, .dead, .dead, .dead], []⟩) | [9], 2 => some (.tmpl ⟨[.pl (.sl (.cons (.int .i64) (.cons (.int .u64) (.cons (.arr 4 (.int .u64)) (.cons (.arr 4 (.int .u64)) (.cons .bool (.cons .bool (.cons (.int .u64) .nil)))))))), .dead, .dead, .pl (.sl (.cons (.int .u64) (.cons (.arr 4 (.int .u64)) (.cons (.arr 4 (.int .u64)) (.cons (.arr 4 (.int .u64)) (.cons (.arr 4 (.int .u64)) (.cons (.int .u64) .nil))))))), .dead, .pl (.int .i64), .dead, .dead, .dead, .dead, .dead, .dead, .dead, .dead, .dead, .dead, .dead, .dead, .dead, .dead, .dead, .dead, .dead, .dead, .dead, .dead, .dead, .dead, .dead, .dead, .dead, .dead, .dead, .dead, .dead, .dead, .dead, .dead, .dead, .dead, .dead, .dead, .dead], []⟩) | _, _ => none
theorem ev9 : ∀ x, evalFn env9 ann9 9 ⟨[.pl (.sl (.cons (.int .i64) (.cons (.int .u64) (.cons (.arr 4 (.int .u64)) (.cons (.arr 4 (.int .u64)) (.cons .bool (.cons .bool (.cons (.int .u64) .nil))))))))], []⟩ ⟨[.pl (.sl (.cons (.int .u64) (.cons (.arr 4 (.int .u64)) (.cons (.arr 4 (.int .u64)) (.cons (.arr 4 (.int .u64)) (.cons (.arr 4 (.int .u64)) (.cons (.int .u64) .nil)))))))], []⟩ 160 K0 x = pontagelaw16_Generate x := by intro x; kernel_rfl
theorem ok9 : ConOk Try.prog 9 pontagelaw16_GenerateC := con_of_ev (E := env9) (envOk tysOk eqsOk (show HowsOk Try.prog [(23, .con pontageref16_AddC), (24, .con pontagelaw16_ReferenceApplyC), (25, .con pontagelaw16_NormalizeC)] from (And.intro ok23 (And.intro ok24 (And.intro ok25 trivial)))) follows methsOk) noOddP fun x _ h => ⟨ann9, 160, K0, (ev9 x).trans h⟩
/-- pontage/pontageref17.Sorted -/
noncomputable def pontageref17_SortedC : Con := ⟨⟨[.pl (.sl (.cons (.int .u64) (.cons (.arr 4 (.int .u64)) (.cons (.arr 4 (.int .u64)) (.cons (.arr 4 (.int .u64)) (.cons (.arr 4 (.int .u64)) (.cons (.int .u64) .nil)))))))], []⟩, ⟨[.pl (.sl (.cons (.int .u64) (.cons (.arr 4 (.int .u64)) (.cons (.arr 4 (.int .u64)) (.cons (.arr 4 (.int .u64)) (.cons (.arr 4 (.int .u64)) (.cons (.int .u64) .nil)))))))], []⟩, pontageref17_Sorted⟩
noncomputable def env30 : Env := mkEnv Try.prog tys eqs [] owns meths
def ann30 : Anns := fun p c => match p, c with | [1000000, 30], 10 => some (.join ⟨[.pl (.sl (.cons (.int .u64) (.cons (.arr 4 (.int .u64)) (.cons (.arr 4 (.int .u64)) (.cons (.arr 4 (.int .u64)) (.cons (.arr 4 (.int .u64)) (.cons (.int .u64) .nil))))))), .dead, .dead, .whole 0, .pl (.int .i64), .pl (.int .i64), .dead, .dead, .dead, .dead, .dead, .dead, .dead, .dead, .dead, .dead, .dead, .dead, .dead, .dead, .dead, .dead, .dead, .dead, .dead, .dead, .dead, .dead, .dead, .dead, .dead, .dead, .dead, .dead, .dead, .dead, .dead, .dead, .dead, .dead, .dead, .dead, .dead, .dead, .dead, .dead, .dead, .dead, .dead, .dead, .dead, .dead, .dead, .dead, .dead, .dead, .dead, .dead, .dead, .dead, .dead, .dead, .dead, .dead, .dead, .dead, .dead, .dead, .dead, .dead, .dead, .dead, .dead, .dead, .dead, .dead, .dead, .dead, .dead, .dead, .dead, .dead], [.row (.cons (.int .u64) (.cons (.arr 4 (.int .u64)) (.cons (.arr 4 (.int .u64)) (.cons (.arr 4 (.int .u64)) (.cons (.arr 4 (.int .u64)) (.cons (.int .u64) .nil))))))]⟩) | [30], 0 => some (.tmpl ⟨[.pl (.sl (.cons (.int .u64) (.cons (.arr 4 (.int .u64)) (.cons (.arr 4 (.int .u64)) (.cons (.arr 4 (.int .u64)) (.cons (.arr 4 (.int .u64)) (.cons (.int .u64) .nil))))))), .dead, .dead, .whole 0, .pl (.int .i64), .dead, .dead, .dead, .dead, .dead, .dead, .dead, .dead, .dead, .dead, .dead, .dead, .dead, .dead, .dead, .dead, .dead, .dead, .dead, .dead, .dead, .dead, .dead, .dead, .dead, .dead, .dead, .dead, .dead, .dead, .dead, .dead, .dead, .dead, .dead, .dead, .dead, .dead, .dead, .dead, .dead, .dead, .dead, .dead, .dead, .dead, .dead, .dead, .dead, .dead, .dead, .dead, .dead, .dead, .dead, .dead, .dead, .dead, .dead, .dead, .dead, .dead, .dead, .dead, .dead, .dead, .dead, .dead, .dead, .dead, .dead, .dead, .dead, .dead, .dead, .dead, .dead], [.row (.cons (.int .u64) (.cons (.arr 4 (.int .u64)) (.cons (.arr 4 (.int .u64)) (.cons (.arr 4 (.int .u64)) (.cons (.arr 4 (.int .u64)) (.cons (.int .u64) .nil))))))]⟩) | [30], 2 => some (.tmpl ⟨[.pl (.sl (.cons (.int .u64) (.cons (.arr 4 (.int .u64)) (.cons (.arr 4 (.int .u64)) (.cons (.arr 4 (.int .u64)) (.cons (.arr 4 (.int .u64)) (.cons (.int .u64) .nil))))))), .dead, .dead, .whole 0, .pl (.int .i64), .pl (.int .i64), .dead, .dead, .dead, .dead, .dead, .dead, .dead, .dead, .dead, .dead, .dead, .dead, .dead, .dead, .dead, .dead, .dead, .dead, .dead, .dead, .dead, .dead, .dead, .dead, .dead, .dead, .dead, .dead, .dead, .dead, .dead, .dead, .dead, .dead, .dead, .dead, .dead, .dead, .dead, .dead, .dead, .dead, .dead, .dead, .dead, .dead, .dead, .dead, .dead, .dead, .dead, .dead, .dead, .dead, .dead, .dead, .dead, .dead, .dead, .dead, .dead, .dead, .dead, .dead, .dead, .dead, .dead, .dead, .dead, .dead, .dead, .dead, .dead, .dead, .dead, .dead], [.row (.cons (.int .u64) (.cons (.arr 4 (.int .u64)) (.cons (.arr 4 (.int .u64)) (.cons (.arr 4 (.int .u64)) (.cons (.arr 4 (.int .u64)) (.cons (.int .u64) .nil))))))]⟩) | _, _ => none
theorem ev30 : ∀ x, evalFn env30 ann30 30 ⟨[.pl (.sl (.cons (.int .u64) (.cons (.arr 4 (.int .u64)) (.cons (.arr 4 (.int .u64)) (.cons (.arr 4 (.int .u64)) (.cons (.arr 4 (.int .u64)) (.cons (.int .u64) .nil)))))))], []⟩ ⟨[.pl (.sl (.cons (.int .u64) (.cons (.arr 4 (.int .u64)) (.cons (.arr 4 (.int .u64)) (.cons (.arr 4 (.int .u64)) (.cons (.arr 4 (.int .u64)) (.cons (.int .u64) .nil)))))))], []⟩ 60 K0 x = pontageref17_Sorted x := by intro x; kernel_rfl
theorem ok30 : ConOk Try.prog 30 pontageref17_SortedC := con_of_ev (E := env30) (envOk tysOk eqsOk (show HowsOk Try.prog [] from trivial) follows methsOk) noOddP fun x _ h => ⟨ann30, 60, K0, (ev30 x).trans h⟩
/-- pontage/pontageref1.Min -/
noncomputable def pontageref1_MinC : Con := ⟨⟨[.pl (.sl (.int .i64)), .pl (.sl (.int .i64))], []⟩, ⟨[.pl (.sl (.int .i64))], []⟩, pontageref1_Min⟩
noncomputable def env32 : Env := mkEnv Try.prog tys eqs [(54, .con pontageref1_CmpC)] owns meths
def ann32 : Anns := fun _ _ => none
theorem ev32 : ∀ x, evalFn env32 ann32 32 ⟨[.pl (.sl (.int .i64)), .pl (.sl (.int .i64))], []⟩ ⟨[.pl (.sl (.int .i64))], []⟩ 60 K0 x = pontageref1_Min x := by intro x; kernel_rfl
theorem ok32 : ConOk Try.prog 32 pontageref1_MinC := con_of_ev (E := env32) (envOk tysOk eqsOk (show HowsOk Try.prog [(54, .con pontageref1_CmpC)] from (And.intro ok54 trivial)) follows methsOk) noOddP fun x _ h => ⟨ann32, 60, K0, (ev32 x).trans h⟩
/-- pontage/pontageref20.Plan -/
noncomputable def pontageref20_PlanC : Con := ⟨⟨[.pl (.sl (.cons (.int .u64) (.cons (.arr 4 (.int .u64)) (.cons (.arr 4 (.int .u64)) (.cons (.arr 4 (.int .u64)) (.cons (.arr 4 (.int .u64)) (.cons (.int .u64) .nil))))))), .pl (.arr 4 (.int .u64))], []⟩, ⟨[.pl (.sl (.cons (.int .u64) (.cons (.arr 4 (.int .u64)) .nil))), .pl (.int .i64)], []⟩, pontageref20_Plan⟩
noncomputable def env11 : Env := mkEnv Try.prog tys eqs [(29, .con pontageref16_ValidC), (30, .con pontageref17_SortedC), (31, .con pontageref1_FromUint256C), (32, .con pontageref1_MinC), (33, .con pontageref1_ToUint256C), (34, .fresh pontageref1_SubC)] owns meths
def ann11 : Anns := fun p c => match p, c with | [1000000, 11], 10 => some (.join ⟨[.dead, .dead, .dead, .dead, .dead, .dead, .whole 0, .pl (.sl (.cons (.int .u64) (.cons (.arr 4 (.int .u64)) (.cons (.arr 4 (.int .u64)) (.cons (.arr 4 (.int .u64)) (.cons (.arr 4 (.int .u64)) (.cons (.int .u64) .nil))))))), .pl (.sl (.int .i64)), .pl (.int .i64), .dead, .dead, .dead, .dead, .dead, .dead, .dead, .dead, .dead, .dead, .dead, .dead, .dead, .pl (.sl (.int .i64)), .pl (.int .i64), .pl .bool, .dead, .dead, .dead, .dead, .dead, .dead, .dead, .dead, .dead, .dead, .dead, .dead, .dead, .dead, .dead, .dead, .dead, .dead, .dead, .dead, .dead, .dead, .dead, .dead, .dead, .dead], [.row (.cons (.int .u64) (.cons (.arr 4 (.int .u64)) .nil))]⟩) | [11], 0 => some (.tmpl ⟨[.dead, .dead, .dead, .dead, .dead, .dead, .whole 0, .pl (.sl (.cons (.int .u64) (.cons (.arr 4 (.int .u64)) (.cons (.arr 4 (.int .u64)) (.cons (.arr 4 (.int .u64)) (.cons (.arr 4 (.int .u64)) (.cons (.int .u64) .nil))))))), .pl (.sl (.int .i64)), .pl (.int .i64), .dead, .dead, .dead, .dead, .dead, .dead, .dead, .dead, .dead, .dead, .dead, .dead, .dead, .dead, .dead, .dead, .dead, .dead, .dead, .dead, .dead, .dead, .dead, .dead, .dead, .dead, .dead, .dead, .dead, .dead, .dead, .dead, .dead, .dead, .dead, .dead, .dead, .dead, .dead, .dead, .dead, .dead], [.row (.cons (.int .u64) (.cons (.arr 4 (.int .u64)) .nil))]⟩) | _, _ => none
theorem ev11 : ∀ x, evalFn env11 ann11 11 ⟨[.pl (.sl (.cons (.int .u64) (.cons (.arr 4 (.int .u64)) (.cons (.arr 4 (.int .u64)) (.cons (.arr 4 (.int .u64)) (.cons (.arr 4 (.int .u64)) (.cons (.int .u64) .nil))))))), .pl (.arr 4 (.int .u64))], []⟩ ⟨[.pl (.sl (.cons (.int .u64) (.cons (.arr 4 (.int .u64)) .nil))), .pl (.int .i64)], []⟩ 60 K0 x = pontageref20_Plan x := by intro x; kernel_rfl
theorem ok11 : ConOk Try.prog 11 pontageref20_PlanC := con_of_ev (E := env11) (envOk tysOk eqsOk (show HowsOk Try.prog [(29, .con pontageref16_ValidC), (30, .con pontageref17_SortedC), (31, .con pontageref1_FromUint256C), (32, .con pontageref1_MinC), (33, .con pontageref1_ToUint256C), (34, .fresh pontageref1_SubC)] from (And.intro ok29 (And.intro ok30 (And.intro ok31 (And.intro ok32 (And.intro ok33 (And.intro okf34 trivial))))))) follows methsOk) noOddP fun x _ h => ⟨ann11, 60, K0, (ev11 x).trans h⟩
/-- pontage/pontagelaw0.EqualPayments -/
noncomputable def pontagelaw0_EqualPaymentsC : Con := ⟨⟨[.pl (.sl (.cons (.int .u64) (.cons (.arr 4 (.int .u64)) .nil))), .pl (.sl (.cons (.int .u64) (.cons (.arr 4 (.int .u64)) .nil)))], []⟩, ⟨[.pl .bool], []⟩, pontagelaw0_EqualPayments⟩
noncomputable def env12 : Env := mkEnv Try.prog tys eqs [] owns meths
def ann12 : Anns := fun p c => match p, c with | [12], 0 => some (.tmpl ⟨[.pl (.sl (.cons (.int .u64) (.cons (.arr 4 (.int .u64)) .nil))), .pl (.sl (.cons (.int .u64) (.cons (.arr 4 (.int .u64)) .nil))), .dead, .dead, .dead, .pl (.int .i64), .dead, .dead, .dead, .dead, .dead, .dead, .dead, .dead, .dead, .dead, .dead, .dead, .dead, .dead, .dead, .dead, .dead, .dead, .dead, .dead], []⟩) | _, _ => none
theorem ev12 : ∀ x, evalFn env12 ann12 12 ⟨[.pl (.sl (.cons (.int .u64) (.cons (.arr 4 (.int .u64)) .nil))), .pl (.sl (.cons (.int .u64) (.cons (.arr 4 (.int .u64)) .nil)))], []⟩ ⟨[.pl .bool], []⟩ 160 K0 x = pontagelaw0_EqualPayments x := by intro x; kernel_rfl
theorem ok12 : ConOk Try.prog 12 pontagelaw0_EqualPaymentsC := con_of_ev (E := env12) (envOk tysOk eqsOk (show HowsOk Try.prog [] from trivial) follows methsOk) noOddP fun x _ h => ⟨ann12, 160, K0, (ev12 x).trans h⟩
/-- pontage/pontagelaw20.PayoutPlan -/
noncomputable def pontagelaw20_PayoutPlanC : Con := ⟨⟨[.pl (.sl (.cons (.int .u64) (.cons (.arr 4 (.int .u64)) (.cons (.arr 4 (.int .u64)) (.cons (.arr 4 (.int .u64)) (.cons (.arr 4 (.int .u64)) (.cons (.int .u64) .nil))))))), .pl (.sl (.cons (.int .i64) (.cons (.int .u64) (.cons (.arr 4 (.int .u64)) (.cons (.arr 4 (.int .u64)) (.cons .bool (.cons .bool (.cons (.int .u64) .nil)))))))), .pl (.arr 4 (.int .u64)), .pl (.int .u64)], []⟩, ⟨[.pl .bool], []⟩, pontagelaw20_PayoutPlan⟩
noncomputable def env3 : Env := mkEnv Try.prog tys eqs [(8, .con pontagelaw20_awakeC), (9, .con pontagelaw16_GenerateC), (10, .con payout_PlanC), (11, .con pontageref20_PlanC), (12, .con pontagelaw0_EqualPaymentsC)] owns meths
def ann3 : Anns := fun p c => match p, c with | [1000000, 3], 3 => some (.join ⟨[.pl (.sl (.cons (.int .u64) (.cons (.arr 4 (.int .u64)) (.cons (.arr 4 (.int .u64)) (.cons (.arr 4 (.int .u64)) (.cons (.arr 4 (.int .u64)) (.cons (.int .u64) .nil))))))), .pl (.sl (.cons (.int .i64) (.cons (.int .u64) (.cons (.arr 4 (.int .u64)) (.cons (.arr 4 (.int .u64)) (.cons .bool (.cons .bool (.cons (.int .u64) .nil)))))))), .dead, .pl (.int .u64), .dead, .dead, .ptr 0 [], .dead, .dead, .dead, .dead, .dead, .dead, .dead, .dead, .dead, .dead, .dead, .dead, .dead, .dead, .dead, .dead, .dead, .pl .bool, .dead, .dead, .dead, .dead, .dead, .dead, .dead, .dead, .dead, .dead, .dead, .dead, .dead, .dead, .dead, .dead, .dead, .dead, .dead, .dead, .dead, .dead, .dead, .dead, .dead, .dead, .dead, .dead, .dead, .dead, .dead, .dead, .dead, .dead, .dead, .dead, .dead, .dead, .dead, .dead], [.box (.arr 4 (.int .u64)) (.pl (.arr 4 (.int .u64)))]⟩) | [1000000, 3], 4 => some (.join ⟨[.pl (.sl (.cons (.int .u64) (.cons (.arr 4 (.int .u64)) (.cons (.arr 4 (.int .u64)) (.cons (.arr 4 (.int .u64)) (.cons (.arr 4 (.int .u64)) (.cons (.int .u64) .nil))))))), .pl (.sl (.cons (.int .i64) (.cons (.int .u64) (.cons (.arr 4 (.int .u64)) (.cons (.arr 4 (.int .u64)) (.cons .bool (.cons .bool (.cons (.int .u64) .nil)))))))), .dead, .pl (.int .u64), .dead, .dead, .ptr 0 [], .dead, .dead, .dead, .dead, .dead, .dead, .dead, .dead, .dead, .dead, .dead, .dead, .dead, .dead, .dead, .dead, .dead, .dead, .dead, .dead, .dead, .dead, .dead, .dead, .dead, .dead, .dead, .dead, .dead, .dead, .dead, .dead, .dead, .dead, .dead, .dead, .dead, .dead, .dead, .dead, .dead, .dead, .dead, .dead, .dead, .dead, .dead, .dead, .dead, .dead, .dead, .dead, .dead, .dead, .dead, .dead, .dead, .dead], [.box (.arr 4 (.int .u64)) (.pl (.arr 4 (.int .u64)))]⟩) | [3], 0 => some (.tmpl ⟨[.dead, .dead, .dead, .pl (.int .u64), .dead, .dead, .ptr 0 [], .dead, .dead, .dead, .dead, .dead, .dead, .dead, .dead, .dead, .dead, .dead, .dead, .dead, .dead, .dead, .dead, .dead, .dead, .dead, .dead, .dead, .dead, .pl (.arr 2 (.sl (.cons (.int .u64) (.cons (.arr 4 (.int .u64)) (.cons (.arr 4 (.int .u64)) (.cons (.arr 4 (.int .u64)) (.cons (.arr 4 (.int .u64)) (.cons (.int .u64) .nil)))))))), .pl (.int .i64), .dead, .dead, .dead, .dead, .dead, .dead, .dead, .dead, .dead, .dead, .dead, .dead, .dead, .dead, .dead, .dead, .dead, .dead, .dead, .dead, .dead, .dead, .dead, .dead, .dead, .dead, .dead, .dead, .dead, .dead, .dead, .dead, .dead, .dead], [.box (.arr 4 (.int .u64)) (.pl (.arr 4 (.int .u64)))]⟩) | [3], 2 => some (.tmpl ⟨[.dead, .dead, .dead, .pl (.int .u64), .dead, .dead, .ptr 0 [], .dead, .dead, .dead, .pl (.sl (.cons (.int .u64) (.cons (.arr 4 (.int .u64)) (.cons (.arr 4 (.int .u64)) (.cons (.arr 4 (.int .u64)) (.cons (.arr 4 (.int .u64)) (.cons (.int .u64) .nil))))))), .dead, .dead, .dead, .dead, .dead, .dead, .dead, .dead, .dead, .dead, .dead, .dead, .dead, .dead, .dead, .dead, .dead, .dead, .pl (.arr 2 (.sl (.cons (.int .u64) (.cons (.arr 4 (.int .u64)) (.cons (.arr 4 (.int .u64)) (.cons (.arr 4 (.int .u64)) (.cons (.arr 4 (.int .u64)) (.cons (.int .u64) .nil)))))))), .pl (.int .i64), .dead, .dead, .dead, .dead, .dead, .dead, .pl (.arr 2 (.arr 4 (.int .u64))), .pl (.int .i64), .dead, .dead, .dead, .dead, .dead, .dead, .dead, .dead, .dead, .dead, .dead, .dead, .dead, .dead, .dead, .dead, .dead, .dead, .dead, .dead, .dead, .dead, .dead, .dead, .dead, .dead], [.box (.arr 4 (.int .u64)) (.pl (.arr 4 (.int .u64)))]⟩) | _, _ => none
theorem ev3 : ∀ x, evalFn env3 ann3 3 ⟨[.pl (.sl (.cons (.int .u64) (.cons (.arr 4 (.int .u64)) (.cons (.arr 4 (.int .u64)) (.cons (.arr 4 (.int .u64)) (.cons (.arr 4 (.int .u64)) (.cons (.int .u64) .nil))))))), .pl (.sl (.cons (.int .i64) (.cons (.int .u64) (.cons (.arr 4 (.int .u64)) (.cons (.arr 4 (.int .u64)) (.cons .bool (.cons .bool (.cons (.int .u64) .nil)))))))), .pl (.arr 4 (.int .u64)), .pl (.int .u64)], []⟩ ⟨[.pl .bool], []⟩ 160 K0 x = pontagelaw20_PayoutPlan x := by intro x; kernel_rfl
theorem ok3 : ConOk Try.prog 3 pontagelaw20_PayoutPlanC := con_of_ev (E := env3) (envOk tysOk eqsOk (show HowsOk Try.prog [(8, .con pontagelaw20_awakeC), (9, .con pontagelaw16_GenerateC), (10, .con payout_PlanC), (11, .con pontageref20_PlanC), (12, .con pontagelaw0_EqualPaymentsC)] from (And.intro ok8 (And.intro ok9 (And.intro ok10 (And.intro ok11 (And.intro ok12 trivial)))))) follows methsOk) noOddP fun x _ h => ⟨ann3, 160, K0, (ev3 x).trans h⟩
/-- pontage/pontagelaw20.PayoutMonotone -/
noncomputable def pontagelaw20_PayoutMonotoneC : Con := ⟨⟨[.pl (.sl (.cons (.int .i64) (.cons (.int .u64) (.cons (.arr 4 (.int .u64)) (.cons (.arr 4 (.int .u64)) (.cons .bool (.cons .bool (.cons (.int .u64) .nil)))))))), .pl (.arr 4 (.int .u64)), .pl (.arr 4 (.int .u64)), .pl (.arr 2 (.int .u64))], []⟩, ⟨[.pl .bool], []⟩, pontagelaw20_PayoutMonotone⟩
noncomputable def env4 : Env := mkEnv Try.prog tys eqs [(8, .con pontagelaw20_awakeC), (9, .con pontagelaw16_GenerateC), (10, .con payout_PlanC), (13, .con uint256_CmpC)] owns meths
def ann4 : Anns := fun p c => match p, c with | [1000000, 4], 11 => some (.join ⟨[.dead, .dead, .dead, .dead, .dead, .dead, .dead, .dead, .dead, .pl (.sl (.cons (.int .u64) (.cons (.arr 4 (.int .u64)) (.cons (.arr 4 (.int .u64)) (.cons (.arr 4 (.int .u64)) (.cons (.arr 4 (.int .u64)) (.cons (.int .u64) .nil))))))), .dead, .dead, .ptr 0 [], .ptr 1 [], .dead, .dead, .dead, .dead, .dead, .dead, .dead, .dead, .dead, .dead, .dead, .dead, .dead, .dead, .dead, .dead, .dead, .dead, .dead, .dead, .dead, .dead, .dead, .pl (.arr 2 (.arr 2 (.arr 4 (.int .u64)))), .pl (.int .i64), .dead, .dead, .dead, .dead, .dead, .dead, .dead, .dead, .dead, .dead, .dead, .dead, .dead, .dead, .dead, .dead, .dead, .dead, .dead, .dead, .dead, .dead, .dead, .dead, .dead, .dead, .dead, .dead, .dead, .dead, .dead, .dead, .dead, .dead, .dead, .dead, .dead, .dead, .dead, .dead, .dead, .dead, .dead, .dead, .dead, .dead, .dead, .dead, .dead, .dead, .dead, .dead, .dead, .dead, .dead, .dead, .dead, .dead, .dead, .dead, .dead, .dead, .dead, .dead, .dead, .dead, .dead, .dead, .dead, .dead, .dead, .dead, .dead, .dead, .dead, .dead, .dead, .dead, .dead, .dead, .dead, .dead, .dead, .dead, .dead, .dead, .dead, .dead], [.box (.arr 4 (.int .u64)) (.pl (.arr 4 (.int .u64))), .box (.arr 4 (.int .u64)) (.pl (.arr 4 (.int .u64)))]⟩) | [1000000, 4], 15 => some (.join ⟨[.dead, .dead, .dead, .dead, .dead, .dead, .dead, .dead, .dead, .pl (.sl (.cons (.int .u64) (.cons (.arr 4 (.int .u64)) (.cons (.arr 4 (.int .u64)) (.cons (.arr 4 (.int .u64)) (.cons (.arr 4 (.int .u64)) (.cons (.int .u64) .nil))))))), .dead, .dead, .dead, .dead, .pl (.sl (.cons (.int .u64) (.cons (.arr 4 (.int .u64)) .nil))), .dead, .pl (.sl (.cons (.int .u64) (.cons (.arr 4 (.int .u64)) .nil))), .dead, .dead, .dead, .dead, .dead, .dead, .dead, .dead, .dead, .dead, .dead, .dead, .dead, .dead, .dead, .dead, .dead, .dead, .dead, .dead, .pl (.arr 2 (.arr 2 (.arr 4 (.int .u64)))), .pl (.int .i64), .dead, .dead, .dead, .dead, .dead, .dead, .dead, .dead, .dead, .dead, .dead, .dead, .dead, .dead, .dead, .dead, .dead, .dead, .dead, .dead, .dead, .dead, .dead, .dead, .dead, .dead, .dead, .pl (.int .i64), .pl .bool, .dead, .dead, .pl (.sl (.cons (.int .u64) (.cons (.arr 4 (.int .u64)) .nil))), .pl (.int .i64), .pl (.sl (.cons (.int .u64) (.cons (.arr 4 (.int .u64)) .nil))), .pl (.int .i64), .pl .bool, .dead, .dead, .dead, .dead, .dead, .dead, .dead, .dead, .dead, .dead, .dead, .dead, .dead, .dead, .dead, .dead, .dead, .dead, .dead, .dead, .dead, .dead, .dead, .dead, .dead, .dead, .dead, .dead, .dead, .dead, .dead, .dead, .dead, .dead, .dead, .dead, .dead, .dead, .dead, .dead, .dead, .dead, .dead, .dead, .dead, .dead, .dead, .dead, .dead, .dead, .dead, .dead], []⟩) | [4], 0 => some (.tmpl ⟨[.dead, .dead, .dead, .dead, .dead, .dead, .dead, .dead, .dead, .pl (.sl (.cons (.int .u64) (.cons (.arr 4 (.int .u64)) (.cons (.arr 4 (.int .u64)) (.cons (.arr 4 (.int .u64)) (.cons (.arr 4 (.int .u64)) (.cons (.int .u64) .nil))))))), .dead, .dead, .dead, .dead, .dead, .dead, .dead, .dead, .dead, .dead, .dead, .dead, .dead, .dead, .dead, .dead, .dead, .dead, .dead, .dead, .dead, .dead, .dead, .dead, .dead, .dead, .dead, .pl (.arr 2 (.arr 2 (.arr 4 (.int .u64)))), .pl (.int .i64), .dead, .dead, .dead, .dead, .dead, .dead, .dead, .dead, .dead, .dead, .dead, .dead, .dead, .dead, .dead, .dead, .dead, .dead, .dead, .dead, .dead, .dead, .dead, .dead, .dead, .dead, .dead, .dead, .dead, .dead, .dead, .dead, .dead, .dead, .dead, .dead, .dead, .dead, .dead, .dead, .dead, .dead, .dead, .dead, .dead, .dead, .dead, .dead, .dead, .dead, .dead, .dead, .dead, .dead, .dead, .dead, .dead, .dead, .dead, .dead, .dead, .dead, .dead, .dead, .dead, .dead, .dead, .dead, .dead, .dead, .dead, .dead, .dead, .dead, .dead, .dead, .dead, .dead, .dead, .dead, .dead, .dead, .dead, .dead, .dead, .dead, .dead, .dead], []⟩) | [4], 2 => some (.tmpl ⟨[.dead, .dead, .dead, .dead, .dead, .dead, .dead, .dead, .dead, .pl (.sl (.cons (.int .u64) (.cons (.arr 4 (.int .u64)) (.cons (.arr 4 (.int .u64)) (.cons (.arr 4 (.int .u64)) (.cons (.arr 4 (.int .u64)) (.cons (.int .u64) .nil))))))), .dead, .dead, .dead, .dead, .pl (.sl (.cons (.int .u64) (.cons (.arr 4 (.int .u64)) .nil))), .dead, .pl (.sl (.cons (.int .u64) (.cons (.arr 4 (.int .u64)) .nil))), .dead, .pl (.int .i64), .dead, .dead, .dead, .dead, .dead, .dead, .dead, .dead, .dead, .dead, .dead, .dead, .dead, .dead, .dead, .dead, .dead, .dead, .pl (.arr 2 (.arr 2 (.arr 4 (.int .u64)))), .pl (.int .i64), .dead, .dead, .dead, .dead, .dead, .dead, .dead, .dead, .dead, .dead, .dead, .dead, .dead, .dead, .dead, .dead, .dead, .dead, .dead, .dead, .dead, .dead, .dead, .dead, .dead, .dead, .dead, .pl (.int .i64), .pl .bool, .dead, .dead, .pl (.sl (.cons (.int .u64) (.cons (.arr 4 (.int .u64)) .nil))), .pl (.int .i64), .pl (.sl (.cons (.int .u64) (.cons (.arr 4 (.int .u64)) .nil))), .pl (.int .i64), .pl .bool, .dead, .dead, .dead, .dead, .dead, .dead, .dead, .dead, .dead, .dead, .dead, .dead, .dead, .dead, .dead, .dead, .dead, .dead, .dead, .dead, .dead, .dead, .dead, .dead, .dead, .dead, .dead, .dead, .dead, .dead, .dead, .dead, .dead, .dead, .dead, .dead, .dead, .dead, .dead, .dead, .dead, .dead, .dead, .dead, .dead, .dead, .dead, .dead, .dead, .dead, .dead, .dead], []⟩) | _, _ => none
theorem ev4 : ∀ x, evalFn env4 ann4 4 ⟨[.pl (.sl (.cons (.int .i64) (.cons (.int .u64) (.cons (.arr 4 (.int .u64)) (.cons (.arr 4 (.int .u64)) (.cons .bool (.cons .bool (.cons (.int .u64) .nil)))))))), .pl (.arr 4 (.int .u64)), .pl (.arr 4 (.int .u64)), .pl (.arr 2 (.int .u64))], []⟩ ⟨[.pl .bool], []⟩ 160 K0 x = pontagelaw20_PayoutMonotone x := by intro x; kernel_rfl
theorem ok4 : ConOk Try.prog 4 pontagelaw20_PayoutMonotoneC := con_of_ev (E := env4) (envOk tysOk eqsOk (show HowsOk Try.prog [(8, .con pontagelaw20_awakeC), (9, .con pontagelaw16_GenerateC), (10, .con payout_PlanC), (13, .con uint256_CmpC)] from (And.intro ok8 (And.intro ok9 (And.intro ok10 (And.intro ok13 trivial))))) follows methsOk) noOddP fun x _ h => ⟨ann4, 160, K0, (ev4 x).trans h⟩
/-- slices.Clone[[]pontage/api.Poster,pontage/api.Poster] -/
noncomputable def slices_Clone___api_Poster_api_Poster_C : Con := ⟨⟨[.pl (.sl (.cons (.int .u64) (.cons (.arr 4 (.int .u64)) (.cons (.arr 4 (.int .u64)) (.cons (.arr 4 (.int .u64)) (.cons (.arr 4 (.int .u64)) (.cons (.int .u64) .nil)))))))], []⟩, ⟨[.whole 0], [.row (.cons (.int .u64) (.cons (.arr 4 (.int .u64)) (.cons (.arr 4 (.int .u64)) (.cons (.arr 4 (.int .u64)) (.cons (.arr 4 (.int .u64)) (.cons (.int .u64) .nil))))))]⟩, slices_Clone___api_Poster_api_Poster_⟩
noncomputable def env35 : Env := mkEnv Try.prog tys eqs [] owns meths
def ann35 : Anns := fun _ _ => none
theorem ev35 : ∀ x, evalFn env35 ann35 35 ⟨[.pl (.sl (.cons (.int .u64) (.cons (.arr 4 (.int .u64)) (.cons (.arr 4 (.int .u64)) (.cons (.arr 4 (.int .u64)) (.cons (.arr 4 (.int .u64)) (.cons (.int .u64) .nil)))))))], []⟩ ⟨[.whole 0], [.row (.cons (.int .u64) (.cons (.arr 4 (.int .u64)) (.cons (.arr 4 (.int .u64)) (.cons (.arr 4 (.int .u64)) (.cons (.arr 4 (.int .u64)) (.cons (.int .u64) .nil))))))]⟩ 60 K0 x = slices_Clone___api_Poster_api_Poster_ x := by intro x; kernel_rfl
theorem ok35 : ConOk Try.prog 35 slices_Clone___api_Poster_api_Poster_C := con_of_ev (E := env35) (envOk tysOk eqsOk (show HowsOk Try.prog [] from trivial) follows methsOk) noOddP fun x _ h => ⟨ann35, 60, K0, (ev35 x).trans h⟩
/-- pontage/poster.Find -/
noncomputable def poster_FindC : Con := ⟨⟨[.pl (.sl (.cons (.int .u64) (.cons (.arr 4 (.int .u64)) (.cons (.arr 4 (.int .u64)) (.cons (.arr 4 (.int .u64)) (.cons (.arr 4 (.int .u64)) (.cons (.int .u64) .nil))))))), .pl (.int .u64)], []⟩, ⟨[.pl (.int .i64)], []⟩, poster_Find⟩
noncomputable def env15 : Env := mkEnv Try.prog tys eqs [(37, .inl), (38, .inl)] owns meths
def ann15 : Anns := fun p c => match p, c with | [37, 1, 2, 15], 0 => some (.tmpl ⟨[.pl (.sl (.cons (.int .u64) (.cons (.arr 4 (.int .u64)) (.cons (.arr 4 (.int .u64)) (.cons (.arr 4 (.int .u64)) (.cons (.arr 4 (.int .u64)) (.cons (.int .u64) .nil))))))), (.clo 38 ((.pair (.ptr 0 []) (.pl .nil)))), .dead, .dead, .dead, .dead, .dead, .pl (.int .i64), .pl (.int .i64), .dead, .dead, .dead, .dead, .dead, .dead, .dead, .dead, .dead, .dead, .dead, .dead, .dead, .dead, .dead, .dead, .dead, .dead], [.box (.int .u64) (.pl (.int .u64))]⟩) | _, _ => none
theorem ev15 : ∀ x, evalFn env15 ann15 15 ⟨[.pl (.sl (.cons (.int .u64) (.cons (.arr 4 (.int .u64)) (.cons (.arr 4 (.int .u64)) (.cons (.arr 4 (.int .u64)) (.cons (.arr 4 (.int .u64)) (.cons (.int .u64) .nil))))))), .pl (.int .u64)], []⟩ ⟨[.pl (.int .i64)], []⟩ 90 K0 x = poster_Find x := by intro x; kernel_rfl
theorem ok15 : ConOk Try.prog 15 poster_FindC := con_of_ev (E := env15) (envOk tysOk eqsOk (show HowsOk Try.prog [(37, .inl), (38, .inl)] from trivial) follows methsOk) noOddP fun x _ h => ⟨ann15, 90, K0, (ev15 x).trans h⟩
/-- pontage/uint256.Add -/
noncomputable def uint256_AddC : Con := ⟨⟨[.pl (.arr 4 (.int .u64)), .pl (.arr 4 (.int .u64))], []⟩, ⟨[.pl (.arr 4 (.int .u64)), .pl (.int .i64)], []⟩, uint256_Add⟩
noncomputable def env39 : Env := mkEnv Try.prog tys eqs [(55, .con add64C)] owns meths
def ann39 : Anns := fun p _ => match p with | 1000000 :: _ => none | _ => some (.unroll 6)
theorem ev39 : ∀ x, evalFn env39 ann39 39 ⟨[.pl (.arr 4 (.int .u64)), .pl (.arr 4 (.int .u64))], []⟩ ⟨[.pl (.arr 4 (.int .u64)), .pl (.int .i64)], []⟩ 60 K0 x = uint256_Add x := by intro x; kernel_rfl
theorem ok39 : ConOk Try.prog 39 uint256_AddC := con_of_ev (E := env39) (envOk tysOk eqsOk (show HowsOk Try.prog [(55, .con add64C)] from (And.intro ok55 trivial)) follows methsOk) noOddP fun x _ h => ⟨ann39, 60, K0, (ev39 x).trans h⟩
/-- pontage/poster.Settle -/
noncomputable def poster_SettleC : Con := ⟨⟨[.pl (.sl (.cons (.int .u64) (.cons (.arr 4 (.int .u64)) (.cons (.arr 4 (.int .u64)) (.cons (.arr 4 (.int .u64)) (.cons (.arr 4 (.int .u64)) (.cons (.int .u64) .nil))))))), .pl (.int .u64), .pl (.arr 4 (.int .u64))], []⟩, ⟨[.pl (.sl (.cons (.int .u64) (.cons (.arr 4 (.int .u64)) (.cons (.arr 4 (.int .u64)) (.cons (.arr 4 (.int .u64)) (.cons (.arr 4 (.int .u64)) (.cons (.int .u64) .nil))))))), .pl (.int .i64)], []⟩, poster_Settle⟩
noncomputable def env36 : Env := mkEnv Try.prog tys eqs [(15, .con poster_FindC), (26, .con poster_ValidC), (35, .con slices_Clone___api_Poster_api_Poster_C), (39, .con uint256_AddC), (43, .con uint256_SubC), (48, .con poster_isZeroC)] owns meths
def ann36 : Anns := fun p c => match p, c with | [1000000, 36], 17 => some (.join ⟨[.pl (.sl (.cons (.int .u64) (.cons (.arr 4 (.int .u64)) (.cons (.arr 4 (.int .u64)) (.cons (.arr 4 (.int .u64)) (.cons (.arr 4 (.int .u64)) (.cons (.int .u64) .nil))))))), .dead, .dead, .dead, .dead, .dead, .dead, .dead, .pl (.int .i64), .ptr 0 [], .dead, .dead, .dead, .dead, .dead, .dead, .dead, .dead, .dead, .dead, .dead, .dead, .dead, .dead, .dead, .dead, .dead, .dead, .dead, .dead, .dead, .dead, .dead, .dead, .dead, .dead, .dead, .dead, .dead, .dead, .dead, .dead, .dead, .dead, .dead, .dead, .dead, .dead, .dead, .dead, .dead, .dead, .dead, .dead, .dead, .dead, .dead, .dead, .dead, .dead, .dead], [.box (.cons (.int .u64) (.cons (.arr 4 (.int .u64)) (.cons (.arr 4 (.int .u64)) (.cons (.arr 4 (.int .u64)) (.cons (.arr 4 (.int .u64)) (.cons (.int .u64) .nil)))))) (.pl (.cons (.int .u64) (.cons (.arr 4 (.int .u64)) (.cons (.arr 4 (.int .u64)) (.cons (.arr 4 (.int .u64)) (.cons (.arr 4 (.int .u64)) (.cons (.int .u64) .nil)))))))]⟩) | _, _ => none
theorem ev36 : ∀ x, evalFn env36 ann36 36 ⟨[.pl (.sl (.cons (.int .u64) (.cons (.arr 4 (.int .u64)) (.cons (.arr 4 (.int .u64)) (.cons (.arr 4 (.int .u64)) (.cons (.arr 4 (.int .u64)) (.cons (.int .u64) .nil))))))), .pl (.int .u64), .pl (.arr 4 (.int .u64))], []⟩ ⟨[.pl (.sl (.cons (.int .u64) (.cons (.arr 4 (.int .u64)) (.cons (.arr 4 (.int .u64)) (.cons (.arr 4 (.int .u64)) (.cons (.arr 4 (.int .u64)) (.cons (.int .u64) .nil))))))), .pl (.int .i64)], []⟩ 60 K0 x = poster_Settle x := by intro x; kernel_rfl
theorem ok36 : ConOk Try.prog 36 poster_SettleC := con_of_ev (E := env36) (envOk tysOk eqsOk (show HowsOk Try.prog [(15, .con poster_FindC), (26, .con poster_ValidC), (35, .con slices_Clone___api_Poster_api_Poster_C), (39, .con uint256_AddC), (43, .con uint256_SubC), (48, .con poster_isZeroC)] from (And.intro ok15 (And.intro ok26 (And.intro ok35 (And.intro ok39 (And.intro ok43 (And.intro ok48 trivial))))))) follows methsOk) noOddP fun x _ h => ⟨ann36, 60, K0, (ev36 x).trans h⟩
/-- pontage/payout.Apply -/
noncomputable def payout_ApplyC : Con := ⟨⟨[.pl (.sl (.cons (.int .u64) (.cons (.arr 4 (.int .u64)) (.cons (.arr 4 (.int .u64)) (.cons (.arr 4 (.int .u64)) (.cons (.arr 4 (.int .u64)) (.cons (.int .u64) .nil))))))), .pl (.sl (.cons (.int .u64) (.cons (.arr 4 (.int .u64)) .nil)))], []⟩, ⟨[.pl (.sl (.cons (.int .u64) (.cons (.arr 4 (.int .u64)) (.cons (.arr 4 (.int .u64)) (.cons (.arr 4 (.int .u64)) (.cons (.arr 4 (.int .u64)) (.cons (.int .u64) .nil))))))), .pl (.int .i64)], []⟩, payout_Apply⟩
noncomputable def env14 : Env := mkEnv Try.prog tys eqs [(35, .con slices_Clone___api_Poster_api_Poster_C), (36, .con poster_SettleC)] owns meths
def ann14 : Anns := fun p c => match p, c with | [14], 0 => some (.tmpl ⟨[.dead, .dead, .dead, .dead, .dead, .dead, .pl (.sl (.cons (.int .u64) (.cons (.arr 4 (.int .u64)) (.cons (.arr 4 (.int .u64)) (.cons (.arr 4 (.int .u64)) (.cons (.arr 4 (.int .u64)) (.cons (.int .u64) .nil))))))), .dead, .dead, .dead, .dead, .dead, .pl (.sl (.cons (.int .u64) (.cons (.arr 4 (.int .u64)) .nil))), .pl (.int .i64), .pl (.int .i64), .dead, .dead, .dead, .dead, .dead, .dead, .dead, .dead, .dead, .dead, .dead, .dead, .dead, .dead, .dead, .dead, .dead], []⟩) | _, _ => none
theorem ev14 : ∀ x, evalFn env14 ann14 14 ⟨[.pl (.sl (.cons (.int .u64) (.cons (.arr 4 (.int .u64)) (.cons (.arr 4 (.int .u64)) (.cons (.arr 4 (.int .u64)) (.cons (.arr 4 (.int .u64)) (.cons (.int .u64) .nil))))))), .pl (.sl (.cons (.int .u64) (.cons (.arr 4 (.int .u64)) .nil)))], []⟩ ⟨[.pl (.sl (.cons (.int .u64) (.cons (.arr 4 (.int .u64)) (.cons (.arr 4 (.int .u64)) (.cons (.arr 4 (.int .u64)) (.cons (.arr 4 (.int .u64)) (.cons (.int .u64) .nil))))))), .pl (.int .i64)], []⟩ 60 K0 x = payout_Apply x := by intro x; kernel_rfl
theorem ok14 : ConOk Try.prog 14 payout_ApplyC := con_of_ev (E := env14) (envOk tysOk eqsOk (show HowsOk Try.prog [(35, .con slices_Clone___api_Poster_api_Poster_C), (36, .con poster_SettleC)] from (And.intro ok35 (And.intro ok36 trivial))) follows methsOk) noOddP fun x _ h => ⟨ann14, 60, K0, (ev14 x).trans h⟩
/-- pontage/pontagelaw20.PayoutOldestFirst -/
noncomputable def pontagelaw20_PayoutOldestFirstC : Con := ⟨⟨[.pl (.sl (.cons (.int .i64) (.cons (.int .u64) (.cons (.arr 4 (.int .u64)) (.cons (.arr 4 (.int .u64)) (.cons .bool (.cons .bool (.cons (.int .u64) .nil)))))))), .pl (.int .u64)], []⟩, ⟨[.pl .bool], []⟩, pontagelaw20_PayoutOldestFirst⟩
noncomputable def env5 : Env := mkEnv Try.prog tys eqs [(8, .con pontagelaw20_awakeC), (9, .con pontagelaw16_GenerateC), (10, .con payout_PlanC), (14, .con payout_ApplyC), (15, .con poster_FindC)] owns meths
def ann5 : Anns := fun p c => match p, c with | [1000000, 5], 11 => some (.join ⟨[.dead, .dead, .dead, .dead, .dead, .pl (.sl (.cons (.int .u64) (.cons (.arr 4 (.int .u64)) (.cons (.arr 4 (.int .u64)) (.cons (.arr 4 (.int .u64)) (.cons (.arr 4 (.int .u64)) (.cons (.int .u64) .nil))))))), .pl (.sl (.cons (.int .u64) (.cons (.arr 4 (.int .u64)) .nil))), .dead, .pl (.sl (.cons (.int .u64) (.cons (.arr 4 (.int .u64)) (.cons (.arr 4 (.int .u64)) (.cons (.arr 4 (.int .u64)) (.cons (.arr 4 (.int .u64)) (.cons (.int .u64) .nil))))))), .dead, .dead, .dead, .dead, .dead, .dead, .dead, .dead, .dead, .dead, .dead, .dead, .dead, .dead, .dead, .dead, .dead, .dead, .dead, .dead, .dead, .dead, .dead, .dead, .dead, .dead, .dead, .dead, .dead, .dead, .dead, .dead, .dead, .dead, .dead, .dead, .dead, .dead, .dead, .dead, .dead, .dead, .dead, .dead, .dead, .dead, .dead, .dead, .dead, .dead, .dead, .dead, .dead, .dead, .dead, .dead, .dead, .dead, .dead, .dead, .dead, .dead, .dead, .dead, .dead, .dead, .dead, .dead, .dead, .dead, .dead, .dead, .dead, .dead, .dead, .dead, .dead, .dead, .dead, .dead, .dead, .dead, .dead, .dead, .dead, .dead, .dead, .dead, .dead, .dead, .dead, .dead, .dead, .dead, .dead, .dead, .dead, .dead, .dead, .dead, .dead, .dead, .dead, .dead, .dead, .dead, .dead, .dead, .dead, .dead, .dead, .dead, .dead, .dead, .dead, .dead, .dead, .dead, .dead, .dead, .dead, .dead, .dead], []⟩) | [1000000, 5], 8 => some (.join ⟨[.dead, .dead, .dead, .dead, .dead, .pl (.sl (.cons (.int .u64) (.cons (.arr 4 (.int .u64)) (.cons (.arr 4 (.int .u64)) (.cons (.arr 4 (.int .u64)) (.cons (.arr 4 (.int .u64)) (.cons (.int .u64) .nil))))))), .pl (.sl (.cons (.int .u64) (.cons (.arr 4 (.int .u64)) .nil))), .pl (.int .i64), .pl (.sl (.cons (.int .u64) (.cons (.arr 4 (.int .u64)) (.cons (.arr 4 (.int .u64)) (.cons (.arr 4 (.int .u64)) (.cons (.arr 4 (.int .u64)) (.cons (.int .u64) .nil))))))), .pl (.int .i64), .dead, .dead, .dead, .dead, .dead, .dead, .dead, .dead, .dead, .dead, .dead, .dead, .dead, .dead, .dead, .dead, .dead, .dead, .dead, .dead, .dead, .dead, .dead, .dead, .dead, .dead, .dead, .dead, .dead, .dead, .pl .bool, .dead, .dead, .dead, .dead, .dead, .dead, .dead, .dead, .dead, .dead, .dead, .dead, .dead, .dead, .dead, .dead, .dead, .dead, .dead, .dead, .dead, .dead, .dead, .dead, .dead, .dead, .dead, .dead, .dead, .dead, .dead, .dead, .dead, .dead, .dead, .dead, .dead, .dead, .dead, .dead, .dead, .dead, .dead, .dead, .dead, .dead, .dead, .dead, .dead, .dead, .dead, .dead, .dead, .dead, .dead, .dead, .dead, .dead, .dead, .dead, .dead, .dead, .dead, .dead, .dead, .dead, .dead, .dead, .dead, .dead, .dead, .dead, .dead, .dead, .dead, .dead, .dead, .dead, .dead, .dead, .dead, .dead, .dead, .dead, .dead, .dead, .dead, .dead, .dead, .dead, .dead], []⟩) | [1000000, 5], 9 => some (.join ⟨[.dead, .dead, .dead, .dead, .dead, .pl (.sl (.cons (.int .u64) (.cons (.arr 4 (.int .u64)) (.cons (.arr 4 (.int .u64)) (.cons (.arr 4 (.int .u64)) (.cons (.arr 4 (.int .u64)) (.cons (.int .u64) .nil))))))), .pl (.sl (.cons (.int .u64) (.cons (.arr 4 (.int .u64)) .nil))), .pl (.int .i64), .pl (.sl (.cons (.int .u64) (.cons (.arr 4 (.int .u64)) (.cons (.arr 4 (.int .u64)) (.cons (.arr 4 (.int .u64)) (.cons (.arr 4 (.int .u64)) (.cons (.int .u64) .nil))))))), .pl (.int .i64), .dead, .dead, .dead, .dead, .dead, .dead, .dead, .dead, .dead, .dead, .dead, .dead, .dead, .dead, .dead, .dead, .dead, .dead, .dead, .dead, .dead, .dead, .dead, .dead, .dead, .dead, .dead, .dead, .dead, .dead, .dead, .dead, .dead, .dead, .dead, .dead, .dead, .dead, .dead, .dead, .dead, .dead, .dead, .dead, .dead, .dead, .dead, .dead, .dead, .dead, .dead, .dead, .dead, .dead, .dead, .dead, .dead, .dead, .dead, .dead, .dead, .dead, .dead, .dead, .dead, .dead, .dead, .dead, .dead, .dead, .dead, .dead, .dead, .dead, .dead, .dead, .dead, .dead, .dead, .dead, .dead, .dead, .dead, .dead, .dead, .dead, .dead, .dead, .dead, .dead, .dead, .dead, .dead, .dead, .dead, .dead, .dead, .dead, .dead, .dead, .dead, .dead, .dead, .dead, .dead, .dead, .dead, .dead, .dead, .dead, .dead, .dead, .dead, .dead, .dead, .dead, .dead, .dead, .dead, .dead, .dead, .dead], []⟩) | [5], 0 => some (.tmpl ⟨[.dead, .dead, .dead, .dead, .dead, .pl (.sl (.cons (.int .u64) (.cons (.arr 4 (.int .u64)) (.cons (.arr 4 (.int .u64)) (.cons (.arr 4 (.int .u64)) (.cons (.arr 4 (.int .u64)) (.cons (.int .u64) .nil))))))), .pl (.sl (.cons (.int .u64) (.cons (.arr 4 (.int .u64)) .nil))), .dead, .pl (.sl (.cons (.int .u64) (.cons (.arr 4 (.int .u64)) (.cons (.arr 4 (.int .u64)) (.cons (.arr 4 (.int .u64)) (.cons (.arr 4 (.int .u64)) (.cons (.int .u64) .nil))))))), .dead, .pl (.int .i64), .dead, .dead, .dead, .dead, .dead, .dead, .dead, .dead, .dead, .dead, .dead, .dead, .dead, .dead, .dead, .dead, .dead, .dead, .dead, .dead, .dead, .dead, .dead, .dead, .dead, .dead, .dead, .dead, .dead, .dead, .dead, .dead, .dead, .dead, .dead, .dead, .dead, .dead, .dead, .dead, .dead, .dead, .dead, .dead, .dead, .dead, .dead, .dead, .dead, .dead, .dead, .dead, .dead, .dead, .dead, .dead, .dead, .dead, .dead, .dead, .dead, .dead, .dead, .dead, .dead, .dead, .dead, .dead, .dead, .dead, .dead, .dead, .dead, .dead, .dead, .dead, .dead, .dead, .dead, .dead, .dead, .dead, .dead, .dead, .dead, .dead, .dead, .dead, .dead, .dead, .dead, .dead, .dead, .dead, .dead, .dead, .dead, .dead, .dead, .dead, .dead, .dead, .dead, .dead, .dead, .dead, .dead, .dead, .dead, .dead, .dead, .dead, .dead, .dead, .dead, .dead, .dead, .dead, .dead, .dead, .dead], []⟩) | [5], 2 => some (.tmpl ⟨[.dead, .dead, .dead, .dead, .dead, .pl (.sl (.cons (.int .u64) (.cons (.arr 4 (.int .u64)) (.cons (.arr 4 (.int .u64)) (.cons (.arr 4 (.int .u64)) (.cons (.arr 4 (.int .u64)) (.cons (.int .u64) .nil))))))), .pl (.sl (.cons (.int .u64) (.cons (.arr 4 (.int .u64)) .nil))), .dead, .pl (.sl (.cons (.int .u64) (.cons (.arr 4 (.int .u64)) (.cons (.arr 4 (.int .u64)) (.cons (.arr 4 (.int .u64)) (.cons (.arr 4 (.int .u64)) (.cons (.int .u64) .nil))))))), .dead, .dead, .dead, .pl (.int .i64), .dead, .dead, .dead, .dead, .dead, .dead, .dead, .dead, .dead, .dead, .dead, .dead, .dead, .dead, .dead, .dead, .dead, .dead, .dead, .dead, .dead, .dead, .dead, .dead, .dead, .dead, .dead, .dead, .dead, .dead, .dead, .dead, .dead, .dead, .dead, .dead, .dead, .dead, .dead, .dead, .dead, .dead, .dead, .dead, .dead, .dead, .dead, .dead, .dead, .dead, .dead, .dead, .dead, .dead, .dead, .dead, .dead, .dead, .dead, .dead, .dead, .dead, .dead, .dead, .dead, .dead, .dead, .dead, .dead, .dead, .dead, .dead, .dead, .dead, .dead, .dead, .dead, .dead, .dead, .dead, .dead, .dead, .dead, .dead, .dead, .dead, .dead, .dead, .dead, .dead, .dead, .dead, .dead, .dead, .dead, .dead, .dead, .dead, .dead, .dead, .dead, .dead, .dead, .dead, .dead, .dead, .dead, .dead, .dead, .dead, .dead, .dead, .dead, .dead, .dead, .dead, .dead, .dead, .dead], []⟩) | [5], 4 => some (.tmpl ⟨[.dead, .dead, .dead, .dead, .dead, .pl (.sl (.cons (.int .u64) (.cons (.arr 4 (.int .u64)) (.cons (.arr 4 (.int .u64)) (.cons (.arr 4 (.int .u64)) (.cons (.arr 4 (.int .u64)) (.cons (.int .u64) .nil))))))), .pl (.sl (.cons (.int .u64) (.cons (.arr 4 (.int .u64)) .nil))), .dead, .pl (.sl (.cons (.int .u64) (.cons (.arr 4 (.int .u64)) (.cons (.arr 4 (.int .u64)) (.cons (.arr 4 (.int .u64)) (.cons (.arr 4 (.int .u64)) (.cons (.int .u64) .nil))))))), .dead, .dead, .dead, .pl (.int .i64), .pl (.int .i64), .pl (.int .i64), .dead, .dead, .dead, .dead, .dead, .dead, .dead, .dead, .dead, .dead, .dead, .dead, .dead, .dead, .dead, .dead, .dead, .dead, .dead, .dead, .dead, .dead, .dead, .dead, .dead, .dead, .dead, .dead, .dead, .dead, .dead, .dead, .dead, .dead, .dead, .dead, .dead, .dead, .dead, .dead, .dead, .dead, .dead, .dead, .dead, .dead, .dead, .dead, .dead, .dead, .dead, .dead, .dead, .dead, .dead, .dead, .dead, .dead, .dead, .dead, .dead, .dead, .dead, .dead, .dead, .dead, .dead, .dead, .dead, .dead, .dead, .dead, .dead, .dead, .dead, .dead, .dead, .dead, .dead, .dead, .dead, .dead, .dead, .dead, .dead, .dead, .dead, .dead, .dead, .dead, .dead, .dead, .dead, .dead, .dead, .dead, .dead, .dead, .dead, .dead, .dead, .dead, .dead, .dead, .dead, .dead, .dead, .dead, .dead, .dead, .dead, .dead, .dead, .dead, .dead, .dead, .dead], []⟩) | _, _ => none
theorem ev5 : ∀ x, evalFn env5 ann5 5 ⟨[.pl (.sl (.cons (.int .i64) (.cons (.int .u64) (.cons (.arr 4 (.int .u64)) (.cons (.arr 4 (.int .u64)) (.cons .bool (.cons .bool (.cons (.int .u64) .nil)))))))), .pl (.int .u64)], []⟩ ⟨[.pl .bool], []⟩ 160 K0 x = pontagelaw20_PayoutOldestFirst x := by intro x; kernel_rfl
theorem ok5 : ConOk Try.prog 5 pontagelaw20_PayoutOldestFirstC := con_of_ev (E := env5) (envOk tysOk eqsOk (show HowsOk Try.prog [(8, .con pontagelaw20_awakeC), (9, .con pontagelaw16_GenerateC), (10, .con payout_PlanC), (14, .con payout_ApplyC), (15, .con poster_FindC)] from (And.intro ok8 (And.intro ok9 (And.intro ok10 (And.intro ok14 (And.intro ok15 trivial)))))) follows methsOk) noOddP fun x _ h => ⟨ann5, 160, K0, (ev5 x).trans h⟩
/-- pontage/payout.Sum -/
noncomputable def payout_SumC : Con := ⟨⟨[.pl (.sl (.cons (.int .u64) (.cons (.arr 4 (.int .u64)) .nil)))], []⟩, ⟨[.pl (.arr 4 (.int .u64)), .pl (.int .i64)], []⟩, payout_Sum⟩
noncomputable def env16 : Env := mkEnv Try.prog tys eqs [(39, .con uint256_AddC)] owns meths
def ann16 : Anns := fun p c => match p, c with | [16], 0 => some (.tmpl ⟨[.dead, .dead, .ptr 0 [], .dead, .ptr 1 [], .dead, .dead, .dead, .dead, .pl (.sl (.cons (.int .u64) (.cons (.arr 4 (.int .u64)) .nil))), .pl (.int .i64), .pl (.int .i64), .dead, .dead, .dead, .dead, .dead, .dead, .dead, .dead, .dead, .dead, .dead, .dead, .dead, .dead, .dead, .dead], [.box (.arr 4 (.int .u64)) (.pl (.arr 4 (.int .u64))), .box (.arr 4 (.int .u64)) (.pl (.arr 4 (.int .u64)))]⟩) | _, _ => none
theorem ev16 : ∀ x, evalFn env16 ann16 16 ⟨[.pl (.sl (.cons (.int .u64) (.cons (.arr 4 (.int .u64)) .nil)))], []⟩ ⟨[.pl (.arr 4 (.int .u64)), .pl (.int .i64)], []⟩ 60 K0 x = payout_Sum x := by intro x; kernel_rfl
theorem ok16 : ConOk Try.prog 16 payout_SumC := con_of_ev (E := env16) (envOk tysOk eqsOk (show HowsOk Try.prog [(39, .con uint256_AddC)] from (And.intro ok39 trivial)) follows methsOk) noOddP fun x _ h => ⟨ann16, 60, K0, (ev16 x).trans h⟩
/-- pontage/pontageref20.Sum -/
noncomputable def pontageref20_SumC : Con := ⟨⟨[.pl (.sl (.cons (.int .u64) (.cons (.arr 4 (.int .u64)) .nil)))], []⟩, ⟨[.pl (.arr 4 (.int .u64)), .pl (.int .i64)], []⟩, pontageref20_Sum⟩
noncomputable def env17 : Env := mkEnv Try.prog tys eqs [(31, .con pontageref1_FromUint256C), (40, .con pontageref1_AddC), (41, .con pontageref1_CheckedC)] owns meths
def ann17 : Anns := fun p c => match p, c with | [17], 0 => some (.tmpl ⟨[.pl (.sl (.cons (.int .u64) (.cons (.arr 4 (.int .u64)) .nil))), .dead, .ptr 0 [], .dead, .pl (.sl (.int .i64)), .pl (.int .i64), .dead, .dead, .dead, .dead, .dead, .dead, .dead, .dead, .dead, .dead, .dead, .dead, .dead, .dead, .dead, .dead, .dead, .dead], [.box (.arr 4 (.int .u64)) (.pl (.arr 4 (.int .u64)))]⟩) | _, _ => none
theorem ev17 : ∀ x, evalFn env17 ann17 17 ⟨[.pl (.sl (.cons (.int .u64) (.cons (.arr 4 (.int .u64)) .nil)))], []⟩ ⟨[.pl (.arr 4 (.int .u64)), .pl (.int .i64)], []⟩ 60 K0 x = pontageref20_Sum x := by intro x; kernel_rfl
theorem ok17 : ConOk Try.prog 17 pontageref20_SumC := con_of_ev (E := env17) (envOk tysOk eqsOk (show HowsOk Try.prog [(31, .con pontageref1_FromUint256C), (40, .con pontageref1_AddC), (41, .con pontageref1_CheckedC)] from (And.intro ok31 (And.intro ok40 (And.intro ok41 trivial)))) follows methsOk) noOddP fun x _ h => ⟨ann17, 60, K0, (ev17 x).trans h⟩
/-- pontage/pontageref20.Apply -/
noncomputable def pontageref20_ApplyC : Con := ⟨⟨[.pl (.sl (.cons (.int .u64) (.cons (.arr 4 (.int .u64)) (.cons (.arr 4 (.int .u64)) (.cons (.arr 4 (.int .u64)) (.cons (.arr 4 (.int .u64)) (.cons (.int .u64) .nil))))))), .pl (.sl (.cons (.int .u64) (.cons (.arr 4 (.int .u64)) .nil)))], []⟩, ⟨[.pl (.sl (.cons (.int .u64) (.cons (.arr 4 (.int .u64)) (.cons (.arr 4 (.int .u64)) (.cons (.arr 4 (.int .u64)) (.cons (.arr 4 (.int .u64)) (.cons (.int .u64) .nil))))))), .pl (.int .i64)], []⟩, pontageref20_Apply⟩
noncomputable def env18 : Env := mkEnv Try.prog tys eqs [(42, .con pontageref16_SettleC)] owns meths
def ann18 : Anns := fun p c => match p, c with | [18], 0 => some (.tmpl ⟨[.dead, .pl (.sl (.cons (.int .u64) (.cons (.arr 4 (.int .u64)) .nil))), .dead, .dead, .dead, .dead, .pl (.sl (.cons (.int .u64) (.cons (.arr 4 (.int .u64)) (.cons (.arr 4 (.int .u64)) (.cons (.arr 4 (.int .u64)) (.cons (.arr 4 (.int .u64)) (.cons (.int .u64) .nil))))))), .pl (.int .i64), .dead, .dead, .dead, .dead, .dead, .dead, .dead, .dead, .dead, .dead, .dead, .dead, .dead, .dead, .dead, .dead, .dead, .dead, .dead, .dead, .dead, .dead, .dead, .dead, .dead, .dead, .dead, .dead, .dead, .dead, .dead], []⟩) | _, _ => none
theorem ev18 : ∀ x, evalFn env18 ann18 18 ⟨[.pl (.sl (.cons (.int .u64) (.cons (.arr 4 (.int .u64)) (.cons (.arr 4 (.int .u64)) (.cons (.arr 4 (.int .u64)) (.cons (.arr 4 (.int .u64)) (.cons (.int .u64) .nil))))))), .pl (.sl (.cons (.int .u64) (.cons (.arr 4 (.int .u64)) .nil)))], []⟩ ⟨[.pl (.sl (.cons (.int .u64) (.cons (.arr 4 (.int .u64)) (.cons (.arr 4 (.int .u64)) (.cons (.arr 4 (.int .u64)) (.cons (.arr 4 (.int .u64)) (.cons (.int .u64) .nil))))))), .pl (.int .i64)], []⟩ 60 K0 x = pontageref20_Apply x := by intro x; kernel_rfl
theorem ok18 : ConOk Try.prog 18 pontageref20_ApplyC := con_of_ev (E := env18) (envOk tysOk eqsOk (show HowsOk Try.prog [(42, .con pontageref16_SettleC)] from (And.intro ok42 trivial)) follows methsOk) noOddP fun x _ h => ⟨ann18, 60, K0, (ev18 x).trans h⟩
/-- pontage/pontagelaw0.EqualPosters -/
noncomputable def pontagelaw0_EqualPostersC : Con := ⟨⟨[.pl (.sl (.cons (.int .u64) (.cons (.arr 4 (.int .u64)) (.cons (.arr 4 (.int .u64)) (.cons (.arr 4 (.int .u64)) (.cons (.arr 4 (.int .u64)) (.cons (.int .u64) .nil))))))), .pl (.sl (.cons (.int .u64) (.cons (.arr 4 (.int .u64)) (.cons (.arr 4 (.int .u64)) (.cons (.arr 4 (.int .u64)) (.cons (.arr 4 (.int .u64)) (.cons (.int .u64) .nil)))))))], []⟩, ⟨[.pl .bool], []⟩, pontagelaw0_EqualPosters⟩
noncomputable def env19 : Env := mkEnv Try.prog tys eqs [] owns meths
def ann19 : Anns := fun p c => match p, c with | [19], 0 => some (.tmpl ⟨[.pl (.sl (.cons (.int .u64) (.cons (.arr 4 (.int .u64)) (.cons (.arr 4 (.int .u64)) (.cons (.arr 4 (.int .u64)) (.cons (.arr 4 (.int .u64)) (.cons (.int .u64) .nil))))))), .pl (.sl (.cons (.int .u64) (.cons (.arr 4 (.int .u64)) (.cons (.arr 4 (.int .u64)) (.cons (.arr 4 (.int .u64)) (.cons (.arr 4 (.int .u64)) (.cons (.int .u64) .nil))))))), .dead, .dead, .dead, .pl (.int .i64), .dead, .dead, .dead, .dead, .dead, .dead, .dead, .dead, .dead, .dead, .dead, .dead, .dead, .dead, .dead, .dead, .dead, .dead, .dead, .dead], []⟩) | _, _ => none
theorem ev19 : ∀ x, evalFn env19 ann19 19 ⟨[.pl (.sl (.cons (.int .u64) (.cons (.arr 4 (.int .u64)) (.cons (.arr 4 (.int .u64)) (.cons (.arr 4 (.int .u64)) (.cons (.arr 4 (.int .u64)) (.cons (.int .u64) .nil))))))), .pl (.sl (.cons (.int .u64) (.cons (.arr 4 (.int .u64)) (.cons (.arr 4 (.int .u64)) (.cons (.arr 4 (.int .u64)) (.cons (.arr 4 (.int .u64)) (.cons (.int .u64) .nil)))))))], []⟩ ⟨[.pl .bool], []⟩ 160 K0 x = pontagelaw0_EqualPosters x := by intro x; kernel_rfl
theorem ok19 : ConOk Try.prog 19 pontagelaw0_EqualPostersC := con_of_ev (E := env19) (envOk tysOk eqsOk (show HowsOk Try.prog [] from trivial) follows methsOk) noOddP fun x _ h => ⟨ann19, 160, K0, (ev19 x).trans h⟩
/-- pontage/pontagelaw20.PayoutSumApply -/
noncomputable def pontagelaw20_PayoutSumApplyC : Con := ⟨⟨[.pl (.sl (.cons (.int .u64) (.cons (.arr 4 (.int .u64)) .nil))), .pl (.sl (.cons (.int .i64) (.cons (.int .u64) (.cons (.arr 4 (.int .u64)) (.cons (.arr 4 (.int .u64)) (.cons .bool (.cons .bool (.cons (.int .u64) .nil)))))))), .pl (.sl (.cons (.int .u64) (.cons (.arr 4 (.int .u64)) (.cons (.arr 4 (.int .u64)) (.cons (.arr 4 (.int .u64)) (.cons (.arr 4 (.int .u64)) (.cons (.int .u64) .nil)))))))], []⟩, ⟨[.pl .bool], []⟩, pontagelaw20_PayoutSumApply⟩
noncomputable def env6 : Env := mkEnv Try.prog tys eqs [(8, .con pontagelaw20_awakeC), (9, .con pontagelaw16_GenerateC), (14, .con payout_ApplyC), (16, .con payout_SumC), (17, .con pontageref20_SumC), (18, .con pontageref20_ApplyC), (19, .con pontagelaw0_EqualPostersC)] owns meths
def ann6 : Anns := fun p c => match p, c with | [1000000, 6], 3 => some (.join ⟨[.pl (.sl (.cons (.int .u64) (.cons (.arr 4 (.int .u64)) .nil))), .pl (.sl (.cons (.int .i64) (.cons (.int .u64) (.cons (.arr 4 (.int .u64)) (.cons (.arr 4 (.int .u64)) (.cons .bool (.cons .bool (.cons (.int .u64) .nil)))))))), .pl (.sl (.cons (.int .u64) (.cons (.arr 4 (.int .u64)) (.cons (.arr 4 (.int .u64)) (.cons (.arr 4 (.int .u64)) (.cons (.arr 4 (.int .u64)) (.cons (.int .u64) .nil))))))), .dead, .dead, .dead, .dead, .dead, .dead, .dead, .dead, .dead, .dead, .dead, .dead, .dead, .dead, .dead, .dead, .dead, .dead, .dead, .dead, .dead, .dead, .dead, .dead, .dead, .dead, .dead, .dead, .dead, .dead, .pl .bool, .dead, .dead, .dead, .dead, .dead, .dead, .dead, .dead, .dead, .dead, .dead, .dead, .dead, .dead, .dead, .dead, .dead, .dead, .dead, .dead, .dead, .dead, .dead, .dead, .dead, .dead, .dead, .dead, .dead, .dead, .dead, .dead, .dead, .dead, .dead, .dead, .dead, .dead, .dead, .dead, .dead, .dead, .dead, .dead, .dead, .dead, .dead, .dead, .dead, .dead, .dead, .dead, .dead, .dead, .dead, .dead, .dead, .dead, .dead, .dead, .dead, .dead, .dead, .dead, .dead, .dead, .dead, .dead, .dead, .dead, .dead, .dead, .dead, .dead, .dead, .dead, .dead, .dead, .dead, .dead, .dead, .dead, .dead], []⟩) | [1000000, 6], 4 => some (.join ⟨[.pl (.sl (.cons (.int .u64) (.cons (.arr 4 (.int .u64)) .nil))), .pl (.sl (.cons (.int .i64) (.cons (.int .u64) (.cons (.arr 4 (.int .u64)) (.cons (.arr 4 (.int .u64)) (.cons .bool (.cons .bool (.cons (.int .u64) .nil)))))))), .pl (.sl (.cons (.int .u64) (.cons (.arr 4 (.int .u64)) (.cons (.arr 4 (.int .u64)) (.cons (.arr 4 (.int .u64)) (.cons (.arr 4 (.int .u64)) (.cons (.int .u64) .nil))))))), .dead, .dead, .dead, .dead, .dead, .dead, .dead, .dead, .dead, .dead, .dead, .dead, .dead, .dead, .dead, .dead, .dead, .dead, .dead, .dead, .dead, .dead, .dead, .dead, .dead, .dead, .dead, .dead, .dead, .dead, .dead, .dead, .dead, .dead, .dead, .dead, .dead, .dead, .dead, .dead, .dead, .dead, .dead, .dead, .dead, .dead, .dead, .dead, .dead, .dead, .dead, .dead, .dead, .dead, .dead, .dead, .dead, .dead, .dead, .dead, .dead, .dead, .dead, .dead, .dead, .dead, .dead, .dead, .dead, .dead, .dead, .dead, .dead, .dead, .dead, .dead, .dead, .dead, .dead, .dead, .dead, .dead, .dead, .dead, .dead, .dead, .dead, .dead, .dead, .dead, .dead, .dead, .dead, .dead, .dead, .dead, .dead, .dead, .dead, .dead, .dead, .dead, .dead, .dead, .dead, .dead, .dead, .dead, .dead, .dead, .dead, .dead, .dead, .dead], []⟩) | [1000000, 6], 8 => some (.join ⟨[.pl (.sl (.cons (.int .u64) (.cons (.arr 4 (.int .u64)) .nil))), .pl (.sl (.cons (.int .i64) (.cons (.int .u64) (.cons (.arr 4 (.int .u64)) (.cons (.arr 4 (.int .u64)) (.cons .bool (.cons .bool (.cons (.int .u64) .nil)))))))), .pl (.sl (.cons (.int .u64) (.cons (.arr 4 (.int .u64)) (.cons (.arr 4 (.int .u64)) (.cons (.arr 4 (.int .u64)) (.cons (.arr 4 (.int .u64)) (.cons (.int .u64) .nil))))))), .dead, .dead, .dead, .dead, .dead, .dead, .dead, .dead, .dead, .dead, .dead, .dead, .dead, .dead, .dead, .dead, .dead, .dead, .dead, .dead, .dead, .dead, .dead, .dead, .dead, .dead, .dead, .dead, .dead, .dead, .dead, .dead, .dead, .dead, .dead, .dead, .dead, .dead, .dead, .dead, .dead, .dead, .dead, .dead, .dead, .dead, .dead, .dead, .dead, .dead, .dead, .dead, .dead, .dead, .dead, .dead, .dead, .dead, .dead, .dead, .dead, .dead, .dead, .dead, .dead, .dead, .dead, .dead, .dead, .dead, .dead, .dead, .dead, .dead, .dead, .dead, .dead, .dead, .dead, .dead, .dead, .dead, .dead, .dead, .dead, .dead, .dead, .dead, .dead, .dead, .dead, .dead, .dead, .dead, .dead, .dead, .dead, .dead, .dead, .dead, .dead, .dead, .dead, .dead, .dead, .dead, .dead, .dead, .dead, .dead, .dead, .dead, .dead, .dead], []⟩) | [6], 0 => some (.tmpl ⟨[.pl (.sl (.cons (.int .u64) (.cons (.arr 4 (.int .u64)) .nil))), .pl (.sl (.cons (.int .i64) (.cons (.int .u64) (.cons (.arr 4 (.int .u64)) (.cons (.arr 4 (.int .u64)) (.cons .bool (.cons .bool (.cons (.int .u64) .nil)))))))), .pl (.sl (.cons (.int .u64) (.cons (.arr 4 (.int .u64)) (.cons (.arr 4 (.int .u64)) (.cons (.arr 4 (.int .u64)) (.cons (.arr 4 (.int .u64)) (.cons (.int .u64) .nil))))))), .dead, .dead, .dead, .dead, .dead, .dead, .dead, .dead, .whole 0, .pl (.int .i64), .dead, .dead, .dead, .dead, .dead, .dead, .dead, .dead, .dead, .dead, .dead, .dead, .dead, .dead, .dead, .dead, .dead, .dead, .dead, .dead, .dead, .dead, .dead, .dead, .dead, .dead, .dead, .dead, .dead, .dead, .dead, .dead, .dead, .dead, .dead, .dead, .dead, .dead, .dead, .dead, .dead, .dead, .dead, .dead, .dead, .dead, .dead, .dead, .dead, .dead, .dead, .dead, .dead, .dead, .dead, .dead, .dead, .dead, .dead, .dead, .dead, .dead, .dead, .dead, .dead, .dead, .dead, .dead, .dead, .dead, .dead, .dead, .dead, .dead, .dead, .dead, .dead, .dead, .dead, .dead, .dead, .dead, .dead, .dead, .dead, .dead, .dead, .dead, .dead, .dead, .dead, .dead, .dead, .dead, .dead, .dead, .dead, .dead, .dead, .dead, .dead, .dead, .dead, .dead], [.row (.cons (.int .u64) (.cons (.arr 4 (.int .u64)) .nil))]⟩) | [6], 2 => some (.tmpl ⟨[.dead, .pl (.sl (.cons (.int .i64) (.cons (.int .u64) (.cons (.arr 4 (.int .u64)) (.cons (.arr 4 (.int .u64)) (.cons .bool (.cons .bool (.cons (.int .u64) .nil)))))))), .pl (.sl (.cons (.int .u64) (.cons (.arr 4 (.int .u64)) (.cons (.arr 4 (.int .u64)) (.cons (.arr 4 (.int .u64)) (.cons (.arr 4 (.int .u64)) (.cons (.int .u64) .nil))))))), .dead, .dead, .dead, .dead, .dead, .dead, .dead, .dead, .dead, .dead, .dead, .dead, .dead, .dead, .dead, .dead, .dead, .dead, .dead, .dead, .dead, .dead, .dead, .dead, .dead, .dead, .dead, .dead, .dead, .dead, .dead, .dead, .dead, .dead, .dead, .dead, .dead, .dead, .dead, .dead, .dead, .dead, .dead, .dead, .dead, .dead, .dead, .dead, .dead, .dead, .dead, .dead, .dead, .dead, .dead, .dead, .dead, .dead, .dead, .dead, .dead, .dead, .dead, .dead, .dead, .dead, .dead, .dead, .dead, .dead, .dead, .dead, .dead, .dead, .dead, .dead, .dead, .dead, .dead, .pl (.arr 2 (.sl (.cons (.int .u64) (.cons (.arr 4 (.int .u64)) .nil)))), .pl (.int .i64), .dead, .dead, .dead, .dead, .dead, .dead, .dead, .dead, .dead, .dead, .dead, .dead, .dead, .dead, .dead, .dead, .dead, .dead, .dead, .dead, .dead, .dead, .dead, .dead, .dead, .dead, .dead, .dead, .dead, .dead, .dead, .dead, .dead], []⟩) | [6], 4 => some (.tmpl ⟨[.dead, .pl (.sl (.cons (.int .i64) (.cons (.int .u64) (.cons (.arr 4 (.int .u64)) (.cons (.arr 4 (.int .u64)) (.cons .bool (.cons .bool (.cons (.int .u64) .nil)))))))), .pl (.sl (.cons (.int .u64) (.cons (.arr 4 (.int .u64)) (.cons (.arr 4 (.int .u64)) (.cons (.arr 4 (.int .u64)) (.cons (.arr 4 (.int .u64)) (.cons (.int .u64) .nil))))))), .dead, .dead, .dead, .dead, .dead, .dead, .dead, .dead, .dead, .dead, .dead, .pl (.sl (.cons (.int .u64) (.cons (.arr 4 (.int .u64)) .nil))), .dead, .dead, .dead, .dead, .dead, .dead, .dead, .dead, .dead, .dead, .dead, .dead, .dead, .dead, .dead, .dead, .dead, .dead, .dead, .dead, .dead, .dead, .dead, .dead, .dead, .dead, .dead, .dead, .dead, .dead, .dead, .dead, .dead, .dead, .dead, .dead, .dead, .dead, .dead, .dead, .dead, .dead, .dead, .dead, .dead, .dead, .dead, .dead, .dead, .dead, .dead, .dead, .dead, .dead, .dead, .dead, .dead, .dead, .dead, .dead, .dead, .dead, .dead, .dead, .dead, .dead, .dead, .pl (.arr 2 (.sl (.cons (.int .u64) (.cons (.arr 4 (.int .u64)) .nil)))), .pl (.int .i64), .dead, .dead, .dead, .dead, .dead, .pl (.arr 2 (.sl (.cons (.int .u64) (.cons (.arr 4 (.int .u64)) (.cons (.arr 4 (.int .u64)) (.cons (.arr 4 (.int .u64)) (.cons (.arr 4 (.int .u64)) (.cons (.int .u64) .nil)))))))), .pl (.int .i64), .dead, .dead, .dead, .dead, .dead, .dead, .dead, .dead, .dead, .dead, .dead, .dead, .dead, .dead, .dead, .dead, .dead, .dead, .dead, .dead, .dead, .dead, .dead, .dead, .dead, .dead], []⟩) | _, _ => none
theorem ev6 : ∀ x, evalFn env6 ann6 6 ⟨[.pl (.sl (.cons (.int .u64) (.cons (.arr 4 (.int .u64)) .nil))), .pl (.sl (.cons (.int .i64) (.cons (.int .u64) (.cons (.arr 4 (.int .u64)) (.cons (.arr 4 (.int .u64)) (.cons .bool (.cons .bool (.cons (.int .u64) .nil)))))))), .pl (.sl (.cons (.int .u64) (.cons (.arr 4 (.int .u64)) (.cons (.arr 4 (.int .u64)) (.cons (.arr 4 (.int .u64)) (.cons (.arr 4 (.int .u64)) (.cons (.int .u64) .nil)))))))], []⟩ ⟨[.pl .bool], []⟩ 160 K0 x = pontagelaw20_PayoutSumApply x := by intro x; kernel_rfl
theorem ok6 : ConOk Try.prog 6 pontagelaw20_PayoutSumApplyC := con_of_ev (E := env6) (envOk tysOk eqsOk (show HowsOk Try.prog [(8, .con pontagelaw20_awakeC), (9, .con pontagelaw16_GenerateC), (14, .con payout_ApplyC), (16, .con payout_SumC), (17, .con pontageref20_SumC), (18, .con pontageref20_ApplyC), (19, .con pontagelaw0_EqualPostersC)] from (And.intro ok8 (And.intro ok9 (And.intro ok14 (And.intro ok16 (And.intro ok17 (And.intro ok18 (And.intro ok19 trivial)))))))) follows methsOk) noOddP fun x _ h => ⟨ann6, 160, K0, (ev6 x).trans h⟩
/-- pontage/poster.TotalDue -/
noncomputable def poster_TotalDueC : Con := ⟨⟨[.pl (.sl (.cons (.int .u64) (.cons (.arr 4 (.int .u64)) (.cons (.arr 4 (.int .u64)) (.cons (.arr 4 (.int .u64)) (.cons (.arr 4 (.int .u64)) (.cons (.int .u64) .nil)))))))], []⟩, ⟨[.pl (.arr 4 (.int .u64)), .pl (.int .i64)], []⟩, poster_TotalDue⟩
noncomputable def env20 : Env := mkEnv Try.prog tys eqs [(26, .con poster_ValidC), (39, .con uint256_AddC)] owns meths
def ann20 : Anns := fun p c => match p, c with | [20], 0 => some (.tmpl ⟨[.dead, .dead, .ptr 0 [], .dead, .ptr 1 [], .dead, .dead, .dead, .dead, .dead, .dead, .dead, .dead, .pl (.sl (.cons (.int .u64) (.cons (.arr 4 (.int .u64)) (.cons (.arr 4 (.int .u64)) (.cons (.arr 4 (.int .u64)) (.cons (.arr 4 (.int .u64)) (.cons (.int .u64) .nil))))))), .pl (.int .i64), .pl (.int .i64), .dead, .dead, .dead, .dead, .dead, .dead, .dead, .dead, .dead, .dead, .dead, .dead, .dead, .dead, .dead, .dead], [.box (.arr 4 (.int .u64)) (.pl (.arr 4 (.int .u64))), .box (.arr 4 (.int .u64)) (.pl (.arr 4 (.int .u64)))]⟩) | _, _ => none
theorem ev20 : ∀ x, evalFn env20 ann20 20 ⟨[.pl (.sl (.cons (.int .u64) (.cons (.arr 4 (.int .u64)) (.cons (.arr 4 (.int .u64)) (.cons (.arr 4 (.int .u64)) (.cons (.arr 4 (.int .u64)) (.cons (.int .u64) .nil)))))))], []⟩ ⟨[.pl (.arr 4 (.int .u64)), .pl (.int .i64)], []⟩ 60 K0 x = poster_TotalDue x := by intro x; kernel_rfl
theorem ok20 : ConOk Try.prog 20 poster_TotalDueC := con_of_ev (E := env20) (envOk tysOk eqsOk (show HowsOk Try.prog [(26, .con poster_ValidC), (39, .con uint256_AddC)] from (And.intro ok26 (And.intro ok39 trivial))) follows methsOk) noOddP fun x _ h => ⟨ann20, 60, K0, (ev20 x).trans h⟩
/-- pontage/pontagelaw20.PayoutComplete -/
noncomputable def pontagelaw20_PayoutCompleteC : Con := ⟨⟨[.pl (.sl (.cons (.int .i64) (.cons (.int .u64) (.cons (.arr 4 (.int .u64)) (.cons (.arr 4 (.int .u64)) (.cons .bool (.cons .bool (.cons (.int .u64) .nil)))))))), .pl (.arr 4 (.int .u64)), .pl (.int .u64)], []⟩, ⟨[.pl .bool], []⟩, pontagelaw20_PayoutComplete⟩
noncomputable def env7 : Env := mkEnv Try.prog tys eqs [(8, .con pontagelaw20_awakeC), (9, .con pontagelaw16_GenerateC), (10, .con payout_PlanC), (14, .con payout_ApplyC), (16, .con payout_SumC), (20, .con poster_TotalDueC), (21, .con uint256_MinC), (22, .con uint256_SaturatingSubC)] owns meths
def ann7 : Anns := fun p c => match p, c with | [1000000, 7], 15 => some (.join ⟨[.dead, .dead, .dead, .dead, .dead, .dead, .dead, .pl (.sl (.cons (.int .u64) (.cons (.arr 4 (.int .u64)) (.cons (.arr 4 (.int .u64)) (.cons (.arr 4 (.int .u64)) (.cons (.arr 4 (.int .u64)) (.cons (.int .u64) .nil))))))), .ptr 0 [], .dead, .dead, .ptr 1 [], .pl (.sl (.cons (.int .u64) (.cons (.arr 4 (.int .u64)) .nil))), .pl (.int .i64), .ptr 2 [], .pl (.int .i64), .pl (.sl (.cons (.int .u64) (.cons (.arr 4 (.int .u64)) (.cons (.arr 4 (.int .u64)) (.cons (.arr 4 (.int .u64)) (.cons (.arr 4 (.int .u64)) (.cons (.int .u64) .nil))))))), .pl (.int .i64), .dead, .dead, .dead, .dead, .dead, .dead, .dead, .dead, .dead, .dead, .dead, .dead, .dead, .dead, .dead, .dead, .dead, .dead, .dead, .dead, .dead, .dead, .dead, .dead, .dead, .dead, .pl (.arr 3 (.arr 4 (.int .u64))), .pl (.int .i64), .dead, .dead, .dead, .dead, .dead, .dead, .dead, .dead, .dead, .dead, .dead, .dead, .dead, .dead, .dead, .dead, .dead, .dead, .dead, .dead, .dead, .dead, .dead, .dead, .dead, .dead, .dead, .dead, .dead, .dead, .dead, .dead, .dead, .dead, .dead, .dead, .dead, .dead, .dead, .dead, .dead, .dead, .dead, .dead, .dead, .dead, .dead, .dead, .dead, .dead, .dead, .dead, .dead, .dead, .dead, .dead, .dead, .dead, .dead, .dead, .dead, .dead, .dead, .dead, .dead, .dead, .dead, .dead, .dead, .dead, .dead, .dead, .dead, .dead, .dead, .dead, .dead, .dead, .dead, .dead, .dead, .dead, .dead, .dead, .dead, .dead, .dead, .dead, .dead, .dead, .dead, .dead, .dead, .dead], [.box (.arr 4 (.int .u64)) (.pl (.arr 4 (.int .u64))), .box (.arr 4 (.int .u64)) (.pl (.arr 4 (.int .u64))), .box (.arr 4 (.int .u64)) (.pl (.arr 4 (.int .u64)))]⟩) | [1000000, 7], 18 => some (.join ⟨[.dead, .dead, .dead, .dead, .dead, .dead, .dead, .pl (.sl (.cons (.int .u64) (.cons (.arr 4 (.int .u64)) (.cons (.arr 4 (.int .u64)) (.cons (.arr 4 (.int .u64)) (.cons (.arr 4 (.int .u64)) (.cons (.int .u64) .nil))))))), .ptr 0 [], .dead, .dead, .dead, .pl (.sl (.cons (.int .u64) (.cons (.arr 4 (.int .u64)) .nil))), .dead, .dead, .dead, .dead, .dead, .dead, .dead, .dead, .dead, .dead, .dead, .dead, .dead, .dead, .dead, .dead, .dead, .dead, .dead, .dead, .dead, .dead, .dead, .dead, .dead, .dead, .dead, .dead, .dead, .dead, .dead, .pl (.arr 3 (.arr 4 (.int .u64))), .pl (.int .i64), .dead, .dead, .dead, .dead, .dead, .dead, .dead, .dead, .dead, .dead, .dead, .dead, .dead, .dead, .dead, .dead, .dead, .dead, .dead, .dead, .dead, .dead, .dead, .dead, .dead, .dead, .dead, .dead, .dead, .dead, .dead, .dead, .dead, .dead, .dead, .dead, .dead, .dead, .dead, .dead, .dead, .dead, .dead, .dead, .dead, .pl (.int .i64), .pl .bool, .dead, .dead, .pl (.int .i64), .pl .bool, .dead, .dead, .pl (.int .i64), .pl .bool, .dead, .dead, .pl (.arr 4 (.int .u64)), .pl (.arr 4 (.int .u64)), .pl (.arr 4 (.int .u64)), .whole 1, .pl (.arr 4 (.int .u64)), .pl .bool, .dead, .dead, .pl (.arr 4 (.int .u64)), .pl (.arr 4 (.int .u64)), .pl (.arr 4 (.int .u64)), .pl (.arr 4 (.int .u64)), .pl .bool, .dead, .dead, .dead, .dead, .dead, .dead, .dead, .dead, .dead, .dead, .dead, .dead, .dead, .dead, .dead, .dead, .dead, .dead, .dead, .dead, .dead, .dead, .dead, .dead], [.box (.arr 4 (.int .u64)) (.pl (.arr 4 (.int .u64))), .row (.arr 4 (.int .u64))]⟩) | [7], 0 => some (.tmpl ⟨[.dead, .dead, .dead, .dead, .dead, .dead, .dead, .pl (.sl (.cons (.int .u64) (.cons (.arr 4 (.int .u64)) (.cons (.arr 4 (.int .u64)) (.cons (.arr 4 (.int .u64)) (.cons (.arr 4 (.int .u64)) (.cons (.int .u64) .nil))))))), .ptr 0 [], .dead, .dead, .dead, .dead, .dead, .dead, .dead, .dead, .dead, .dead, .dead, .dead, .dead, .dead, .dead, .dead, .dead, .dead, .dead, .dead, .dead, .dead, .dead, .dead, .dead, .dead, .dead, .dead, .dead, .dead, .dead, .dead, .dead, .dead, .dead, .pl (.arr 3 (.arr 4 (.int .u64))), .pl (.int .i64), .dead, .dead, .dead, .dead, .dead, .dead, .dead, .dead, .dead, .dead, .dead, .dead, .dead, .dead, .dead, .dead, .dead, .dead, .dead, .dead, .dead, .dead, .dead, .dead, .dead, .dead, .dead, .dead, .dead, .dead, .dead, .dead, .dead, .dead, .dead, .dead, .dead, .dead, .dead, .dead, .dead, .dead, .dead, .dead, .dead, .dead, .dead, .dead, .dead, .dead, .dead, .dead, .dead, .dead, .dead, .dead, .dead, .dead, .dead, .dead, .dead, .dead, .dead, .dead, .dead, .dead, .dead, .dead, .dead, .dead, .dead, .dead, .dead, .dead, .dead, .dead, .dead, .dead, .dead, .dead, .dead, .dead, .dead, .dead, .dead, .dead, .dead, .dead, .dead, .dead, .dead, .dead, .dead, .dead], [.box (.arr 4 (.int .u64)) (.pl (.arr 4 (.int .u64)))]⟩) | [7], 2 => some (.tmpl ⟨[.dead, .dead, .dead, .dead, .dead, .dead, .dead, .pl (.sl (.cons (.int .u64) (.cons (.arr 4 (.int .u64)) (.cons (.arr 4 (.int .u64)) (.cons (.arr 4 (.int .u64)) (.cons (.arr 4 (.int .u64)) (.cons (.int .u64) .nil))))))), .ptr 0 [], .dead, .dead, .dead, .pl (.sl (.cons (.int .u64) (.cons (.arr 4 (.int .u64)) .nil))), .dead, .dead, .dead, .dead, .dead, .dead, .dead, .pl (.int .i64), .dead, .dead, .dead, .dead, .dead, .dead, .dead, .dead, .dead, .dead, .dead, .dead, .dead, .dead, .dead, .dead, .dead, .dead, .dead, .dead, .dead, .dead, .dead, .pl (.arr 3 (.arr 4 (.int .u64))), .pl (.int .i64), .dead, .dead, .dead, .dead, .dead, .dead, .dead, .dead, .dead, .dead, .dead, .dead, .dead, .dead, .dead, .dead, .dead, .dead, .dead, .dead, .dead, .dead, .dead, .dead, .dead, .dead, .dead, .dead, .dead, .dead, .dead, .dead, .dead, .dead, .dead, .dead, .dead, .dead, .dead, .dead, .dead, .dead, .dead, .dead, .dead, .pl (.int .i64), .pl .bool, .dead, .dead, .pl (.int .i64), .pl .bool, .dead, .dead, .pl (.int .i64), .pl .bool, .dead, .dead, .pl (.arr 4 (.int .u64)), .pl (.arr 4 (.int .u64)), .pl (.arr 4 (.int .u64)), .whole 1, .pl (.arr 4 (.int .u64)), .pl .bool, .dead, .dead, .pl (.arr 4 (.int .u64)), .pl (.arr 4 (.int .u64)), .pl (.arr 4 (.int .u64)), .pl (.arr 4 (.int .u64)), .pl .bool, .dead, .dead, .dead, .dead, .dead, .dead, .dead, .dead, .dead, .dead, .dead, .dead, .dead, .dead, .dead, .dead, .dead, .dead, .dead, .dead, .dead, .dead, .dead, .dead], [.box (.arr 4 (.int .u64)) (.pl (.arr 4 (.int .u64))), .row (.arr 4 (.int .u64))]⟩) | _, _ => none
theorem ev7 : ∀ x, evalFn env7 ann7 7 ⟨[.pl (.sl (.cons (.int .i64) (.cons (.int .u64) (.cons (.arr 4 (.int .u64)) (.cons (.arr 4 (.int .u64)) (.cons .bool (.cons .bool (.cons (.int .u64) .nil)))))))), .pl (.arr 4 (.int .u64)), .pl (.int .u64)], []⟩ ⟨[.pl .bool], []⟩ 160 K0 x = pontagelaw20_PayoutComplete x := by intro x; kernel_rfl
theorem ok7 : ConOk Try.prog 7 pontagelaw20_PayoutCompleteC := con_of_ev (E := env7) (envOk tysOk eqsOk (show HowsOk Try.prog [(8, .con pontagelaw20_awakeC), (9, .con pontagelaw16_GenerateC), (10, .con payout_PlanC), (14, .con payout_ApplyC), (16, .con payout_SumC), (20, .con poster_TotalDueC), (21, .con uint256_MinC), (22, .con uint256_SaturatingSubC)] from (And.intro ok8 (And.intro ok9 (And.intro ok10 (And.intro ok14 (And.intro ok16 (And.intro ok20 (And.intro ok21 (And.intro ok22 trivial))))))))) follows methsOk) noOddP fun x _ h => ⟨ann7, 160, K0, (ev7 x).trans h⟩
end Sym

/- Rules for what a printed function computes. -/
namespace Sym
open Go

/-- The result r has the property T. -/
def Wp {R : Type} (T : R → Prop) (r : R) : Prop := T r

theorem Wp.brn {R : Type} {T : R → Prop} {c : Bool} {t f : R} (h1 : c = true → Wp T t) (h2 : c = false → Wp T f) : Wp T (brn c t f) := by
  cases c
  · exact h2 rfl
  · exact h1 rfl

theorem Wp.brnT {R : Type} {T : R → Prop} {c : Bool} {t f : R} (hc : c = true) (h : Wp T t) : Wp T (Sym.brn c t f) := by subst hc; exact h
theorem Wp.brnF {R : Type} {T : R → Prop} {c : Bool} {t f : R} (hc : c = false) (h : Wp T f) : Wp T (Sym.brn c t f) := by subst hc; exact h

theorem Wp.optF {R Y : Type} {T : R → Prop} {fail : R} {o : Option Y} {k : Y → R} {y : Y} (ho : o = some y) (h : Wp T (k y)) : Wp T (optF fail o k) := by subst ho; exact h

theorem Wp.call {R Y : Type} {T : R → Prop} {fail : R} {o : Option Y} {k : Y → R} {P : Y → Prop} (ho : ∃ y, o = some y ∧ P y) (h : ∀ y, P y → Wp T (k y)) : Wp T (Sym.optF fail o k) := by
  obtain ⟨y, rfl, hp⟩ := ho
  exact h y hp

theorem Wp.jn {X R : Type} {T : R → Prop} {J : X → R} {f : (X → R) → R} (P : X → Prop) (h1 : ∀ x, P x → Wp T (J x)) (h2 : ∀ j : X → R, (∀ x, P x → Wp T (j x)) → Wp T (f j)) : Wp T (jn J f) := h2 J h1

/-- One round. -/
def Rnd {X R : Type} (T : R → Prop) (Inv : X → Prop) (μ : X → Nat) (m : Nat) (s : Stp X R) : Prop :=
  match s with
  | .again y => Inv y ∧ μ y < m
  | .done r => Wp T r

theorem Wp.again {X R : Type} {T : R → Prop} {Inv : X → Prop} {μ : X → Nat} {m : Nat} {y : X} (h1 : Inv y) (h2 : μ y < m) : Wp (Rnd T Inv μ m) (.again y : Stp X R) := ⟨h1, h2⟩
theorem Wp.done {X R : Type} {T : R → Prop} {Inv : X → Prop} {μ : X → Nat} {m : Nat} {r : R} (h : Wp T r) : Wp (Rnd T Inv μ m) (.done r : Stp X R) := h

theorem Wp.iter {X R : Type} {T : R → Prop} {fail : R} {f : X → Stp X R} {x : X} (Inv : X → Prop) (μ : X → Nat) {k : Nat} (h : ∀ x, Inv x → Wp (Rnd T Inv μ (μ x)) (f x)) (hi : Inv x) (hm : μ x < k) : Wp T (iter fail f k x) := by
  induction k generalizing x with
  | zero => omega
  | succ k ih =>
    have h1 := h x hi
    unfold Sym.iter
    cases hf : f x with
    | again y =>
      rw [hf] at h1
      exact ih h1.1 (Nat.lt_of_lt_of_le h1.2 (by omega))
    | done r =>
      rw [hf] at h1
      exact h1

/-- Behind one round. -/
def Nxt {X R : Type} (T : R → Prop) (fail : R) (f : X → Stp X R) (k : Nat) (s : Stp X R) : Prop :=
  match s with
  | .again y => Wp T (Sym.iter fail f k y)
  | .done r => Wp T r

theorem Wp.unroll {X R : Type} {T : R → Prop} {fail : R} {f : X → Stp X R} {x : X} {k : Nat} (h : Wp (Nxt T fail f k) (f x)) : Wp T (Sym.iter fail f (k + 1) x) := by
  unfold Sym.iter
  cases hf : f x with
  | again y => rw [hf] at h; exact h
  | done r => rw [hf] at h; exact h
theorem Wp.next {X R : Type} {T : R → Prop} {fail : R} {f : X → Stp X R} {y : X} {k : Nat} (h : Wp T (Sym.iter fail f k y)) : Wp (Nxt T fail f k) (.again y) := h
theorem Wp.stop {X R : Type} {T : R → Prop} {fail : R} {f : X → Stp X R} {r : R} {k : Nat} (h : Wp T r) : Wp (Nxt T fail f k) (.done r) := h

theorem Wp.some {Y : Type} {T : Y → Prop} {y : Y} (h : T y) : Wp (fun o : Option Y => ∃ y, o = some y ∧ T y) (some y) := ⟨y, rfl, h⟩
theorem Wp.out {R : Type} {T : R → Prop} {r : R} (h : Wp T r) : T r := h

/-! Whole numbers of a kind. -/
theorem I.of_val {k : IntKind} {n : Int} (h : k.min ≤ n ∧ n ≤ k.max) : (I.of k n).val = n := wrap_eq_of_range h

theorem of_u64 {n : Int} (h : 0 ≤ n ∧ n < 18446744073709551616) : (I.of .u64 n).val = n := I.of_val ⟨by simp [IntKind.min, IntKind.signed]; omega, by simp [IntKind.max, IntKind.bits, IntKind.signed]; omega⟩
theorem of_i64 {n : Int} (h : -9223372036854775808 ≤ n ∧ n < 9223372036854775808) : (I.of .i64 n).val = n := I.of_val ⟨by simp [IntKind.min, IntKind.bits, IntKind.signed]; omega, by simp [IntKind.max, IntKind.bits, IntKind.signed]; omega⟩
theorem of_u8 {n : Int} (h : 0 ≤ n ∧ n < 256) : (I.of .u8 n).val = n := I.of_val ⟨by simp [IntKind.min, IntKind.signed]; omega, by simp [IntKind.max, IntKind.bits, IntKind.signed]; omega⟩

theorem u64_range (x : I .u64) : 0 ≤ x.val ∧ x.val < 18446744073709551616 := I_range x
theorem i64_range (x : I .i64) : -9223372036854775808 ≤ x.val ∧ x.val < 9223372036854775808 := by
  have h := x.ok
  have h1 : (2 ^ IntKind.i64.bits : Int) = 18446744073709551616 := by decide
  have h2 : (2 ^ (IntKind.i64.bits - 1) : Int) = 9223372036854775808 := by decide
  have h3 : IntKind.i64.signed = true := rfl
  simp only [IntKind.wrap, h1, h2, h3, Bool.true_and, decide_eq_true_eq] at h
  split at h <;> omega
theorem u8_range (x : I .u8) : 0 ≤ x.val ∧ x.val < 256 := by
  have h := x.ok
  simp only [IntKind.wrap, IntKind.bits, IntKind.signed, Bool.false_and, Bool.false_eq_true, if_false] at h
  omega

theorem iff_ltb {k : IntKind} {a b : I k} : I.ltb a b = true ↔ a.val < b.val := by simp [I.ltb]
theorem iff_leb {k : IntKind} {a b : I k} : I.leb a b = true ↔ a.val ≤ b.val := by simp [I.leb]
theorem iff_eqb {k : IntKind} {a b : I k} : I.eqb a b = true ↔ a.val = b.val := by simp [I.eqb]
theorem iff_neb {k : IntKind} {a b : I k} : I.neb a b = true ↔ a.val ≠ b.val := by simp [I.neb]
theorem niff_ltb {k : IntKind} {a b : I k} : I.ltb a b = false ↔ b.val ≤ a.val := by simp [I.ltb]
theorem niff_leb {k : IntKind} {a b : I k} : I.leb a b = false ↔ b.val < a.val := by simp [I.leb]
theorem niff_eqb {k : IntKind} {a b : I k} : I.eqb a b = false ↔ a.val ≠ b.val := by simp [I.eqb]
theorem niff_neb {k : IntKind} {a b : I k} : I.neb a b = false ↔ a.val = b.val := by simp [I.neb]
theorem iff_nz {k : IntKind} {a : I k} : I.nz a = true ↔ a.val ≠ 0 := by simp [I.nz]
theorem iff_nn {k : IntKind} {a : I k} : I.nn a = true ↔ 0 ≤ a.val := by simp [I.nn]
theorem iff_inB {k : IntKind} {a : I k} {n : Nat} : inB a n = true ↔ 0 ≤ a.val ∧ a.val < n := by simp [inB]
theorem iff_fits {n : Nat} : fitsLen n = true ↔ n ≤ 1073741824 := by simp [fitsLen]

theorem I.eq_of {k : IntKind} {a b : I k} (h : I.eqb a b = true) : a = b := I.ext' (iff_eqb.1 h)
theorem ofNat_i64 {n : Nat} (h : n < 9223372036854775808) : (I.ofNat .i64 n).val = n := of_i64 ⟨by omega, by omega⟩
theorem add_i64 {a b : I .i64} (h : -9223372036854775808 ≤ a.val + b.val ∧ a.val + b.val < 9223372036854775808) : (I.add a b).val = a.val + b.val := of_i64 h
theorem sub_i64 {a b : I .i64} (h : -9223372036854775808 ≤ a.val - b.val ∧ a.val - b.val < 9223372036854775808) : (I.sub a b).val = a.val - b.val := of_i64 h
theorem mul_i64 {a b : I .i64} (h : -9223372036854775808 ≤ a.val * b.val ∧ a.val * b.val < 9223372036854775808) : (I.mul a b).val = a.val * b.val := of_i64 h
theorem rem_i64 {a b : I .i64} (h : 0 ≤ a.val) (h2 : 0 < b.val) : (I.rem a b).val = a.val % b.val := by
  have ha := i64_range a
  have hb := i64_range b
  have e : a.val.tmod b.val = a.val % b.val := Int.tmod_eq_emod_of_nonneg h
  have h3 := Int.emod_nonneg a.val (b := b.val) (by omega)
  have h4 := Int.emod_lt_of_pos a.val h2
  unfold I.rem
  rw [e]
  exact of_i64 ⟨by omega, by omega⟩
theorem quo_i64 {a b : I .i64} (h : 0 ≤ a.val) (h2 : 0 < b.val) : (I.quo a b).val = a.val / b.val := by
  have ha := i64_range a
  have e : a.val.tdiv b.val = a.val / b.val := Int.tdiv_eq_ediv_of_nonneg h
  have h3 : 0 ≤ a.val / b.val := Int.ediv_nonneg h (by omega)
  have h4 : a.val / b.val ≤ a.val := Int.ediv_le_self _ h
  unfold I.quo
  rw [e]
  exact of_i64 ⟨by omega, by omega⟩
theorem add_u64 {a b : I .u64} (h : a.val + b.val < 18446744073709551616) : (I.add a b).val = a.val + b.val := of_u64 ⟨by have := u64_range a; have := u64_range b; omega, h⟩
theorem sub_u64 {a b : I .u64} (h : b.val ≤ a.val) : (I.sub a b).val = a.val - b.val := of_u64 ⟨by omega, by have := u64_range a; have := u64_range b; omega⟩
theorem rem_u64 {a b : I .u64} (h2 : b.val ≠ 0) : (I.rem a b).val = a.val % b.val := by
  have ha := u64_range a
  have hb := u64_range b
  have e : a.val.tmod b.val = a.val % b.val := Int.tmod_eq_emod_of_nonneg ha.1
  have h3 := Int.emod_nonneg a.val (b := b.val) (by omega)
  have h4 := Int.emod_lt_of_pos a.val (b := b.val) (by omega)
  unfold I.rem
  rw [e]
  exact of_u64 ⟨by omega, by omega⟩
theorem quo_u64 {a b : I .u64} : (I.quo a b).val = a.val / b.val := by
  have ha := u64_range a
  have hb := u64_range b
  have e : a.val.tdiv b.val = a.val / b.val := Int.tdiv_eq_ediv_of_nonneg ha.1
  have h3 : 0 ≤ a.val / b.val := Int.ediv_nonneg ha.1 hb.1
  have h4 : a.val / b.val ≤ a.val := Int.ediv_le_self _ ha.1
  unfold I.quo
  rw [e]
  exact of_u64 ⟨by omega, by omega⟩
theorem nn_u64 (a : I .u64) : I.nn a = true := iff_nn.2 (u64_range a).1
/-- A power of two by a shift of one. -/
theorem shl_one {a : I .u64} (h : a.val < 64) : (I.shl (I.of .u64 1) a).val = 2 ^ a.val.toNat := by
  have ha := u64_range a
  have hm : min a.val.toNat IntKind.u64.bits = a.val.toNat := by
    have : IntKind.u64.bits = 64 := rfl
    omega
  have h1 : (I.of .u64 1).val = 1 := rfl
  unfold I.shl
  rw [hm, h1, Int.one_mul]
  refine of_u64 ⟨Int.le_of_lt (Int.pow_pos (by decide)), ?_⟩
  have h3 : 2 ^ a.val.toNat ≤ 2 ^ 63 := Nat.pow_le_pow_right (by decide) (by omega)
  have h4 : ((2 ^ a.val.toNat : Nat) : Int) = 2 ^ a.val.toNat := by simp
  rw [← h4]
  omega
end Sym

/- Natural numbers as ints; lists as rows. -/
namespace Sym
open Go

/-- A natural number as an int. -/
def i6 (n : Nat) : I .i64 := I.of .i64 (n : Int)

theorem i6_val {n : Nat} (h : n < 9223372036854775808) : (i6 n).val = n := of_i64 ⟨by omega, by omega⟩
theorem i6_nat {n : Nat} (h : n < 9223372036854775808) : I.nat (i6 n) = n := by unfold I.nat; rw [i6_val h]; simp
theorem i6_add {n m : Nat} (h : n + m < 9223372036854775808) : I.add (i6 n) (i6 m) = i6 (n + m) := by
  apply I.ext'
  rw [add_i64 (by rw [i6_val (by omega), i6_val (by omega)]; omega), i6_val (by omega), i6_val (by omega), i6_val h]
  omega
theorem i6_sub {n m : Nat} (h : n < 9223372036854775808) (hm : m ≤ n) : I.sub (i6 n) (i6 m) = i6 (n - m) := by
  apply I.ext'
  rw [sub_i64 (by rw [i6_val (by omega), i6_val (by omega)]; omega), i6_val (by omega), i6_val (by omega), i6_val (by omega)]
  omega
theorem i6_ltb {n m : Nat} (hn : n < 9223372036854775808) (hm : m < 9223372036854775808) : I.ltb (i6 n) (i6 m) = decide (n < m) := by
  simp only [I.ltb, i6_val hn, i6_val hm]
  by_cases h : n < m
  · rw [decide_eq_true h, decide_eq_true (by omega)]
  · rw [decide_eq_false h, decide_eq_false (by omega)]
theorem i6_leb {n m : Nat} (hn : n < 9223372036854775808) (hm : m < 9223372036854775808) : I.leb (i6 n) (i6 m) = decide (n ≤ m) := by
  simp only [I.leb, i6_val hn, i6_val hm]
  by_cases h : n ≤ m
  · rw [decide_eq_true h, decide_eq_true (by omega)]
  · rw [decide_eq_false h, decide_eq_false (by omega)]
theorem i6_inB {n m : Nat} (hn : n < m) (hm : n < 9223372036854775808) : inB (i6 n) m = true := iff_inB.2 (by rw [i6_val hm]; omega)
theorem i6_inB' {n m : Nat} (hn : n ≤ m) (hm : n < 9223372036854775808) : inB' (i6 n) m = true := by
  simp only [inB', Bool.and_eq_true, decide_eq_true_eq, i6_val hm]
  omega
theorem i6_mn {n m : Nat} (hn : n < 9223372036854775808) (hm : m < 9223372036854775808) : I.mn (i6 n) (i6 m) = i6 (min n m) := by
  unfold I.mn
  rw [i6_val hn, i6_val hm]
  by_cases h : (m : Int) < n
  · rw [if_pos h, Nat.min_eq_right (by omega)]
  · rw [if_neg h, Nat.min_eq_left (by omega)]
theorem i6_of (n : Nat) : I.of .i64 (n : Int) = i6 n := rfl
theorem i6_ofNat (n : Nat) : I.ofNat .i64 n = i6 n := rfl

theorem i6_eqb {n m : Nat} (hn : n < 9223372036854775808) (hm : m < 9223372036854775808) : I.eqb (i6 n) (i6 m) = decide (n = m) := by
  simp only [I.eqb, i6_val hn, i6_val hm]
  by_cases h : n = m
  · rw [decide_eq_true h, decide_eq_true (by omega)]
  · rw [decide_eq_false h, decide_eq_false (by omega)]
theorem i6_neb {n m : Nat} (hn : n < 9223372036854775808) (hm : m < 9223372036854775808) : I.neb (i6 n) (i6 m) = decide (n ≠ m) := by
  have h := i6_eqb hn hm
  by_cases e : n = m
  · rw [decide_eq_true e] at h; rw [decide_eq_false (by simpa using e)]; exact niff_neb.2 (iff_eqb.1 h)
  · rw [decide_eq_false e] at h; rw [decide_eq_true e]; exact iff_neb.2 (niff_eqb.1 h)
theorem i6_inB_not {n m : Nat} (hn : m ≤ n) (hm : n < 9223372036854775808) : inB (i6 n) m = false := by
  cases h : inB (i6 n) m with
  | false => rfl
  | true => have := iff_inB.1 h; rw [i6_val hm] at this; omega

theorem rdL_eq {X : Type} (d : X) : ∀ (l : List X) (i : Nat) (h : i < l.length), rdL d l i = l[i]
  | x :: l, 0, _ => rfl
  | x :: l, i + 1, h => rdL_eq d l i (by simpa using h)
theorem rdL_out {X : Type} (d : X) : ∀ (l : List X) (i : Nat), l.length ≤ i → rdL d l i = d
  | [], _, _ => rfl
  | _ :: _, 0, h => by simp at h
  | _ :: l, i + 1, h => rdL_out d l i (by simpa using h)
theorem setAt_eq {X : Type} : ∀ (l : List X) (i : Nat) (v : X), setAt l i v = l.set i v
  | [], _, _ => rfl
  | _ :: _, 0, _ => rfl
  | x :: l, i + 1, v => by simp [setAt, setAt_eq l i v]
theorem rdL_set {X : Type} (d : X) (l : List X) (i k : Nat) (v : X) : rdL d (setAt l i v) k = if k = i ∧ i < l.length then v else rdL d l k := by
  rw [setAt_eq]
  by_cases hk : k < l.length
  · rw [rdL_eq d _ k (by simpa using hk), List.getElem_set]
    by_cases h : k = i
    · subst h; simp [hk]
    · rw [if_neg (by omega), if_neg (by omega), rdL_eq d l k hk]
  · rw [rdL_out _ _ _ (by simp; omega), rdL_out _ _ _ (by omega), if_neg (by omega)]
theorem rdL_app {X : Type} (d : X) (l m : List X) (k : Nat) : rdL d (l ++ m) k = if k < l.length then rdL d l k else rdL d m (k - l.length) := by
  induction l generalizing k with
  | nil => simp
  | cons x l ih =>
    cases k with
    | zero => simp [rdL]
    | succ k =>
      simp only [List.cons_append, rdL, ih, List.length_cons, Nat.add_lt_add_iff_right, Nat.add_sub_add_right]
theorem rdL_take {X : Type} (d : X) (l : List X) (n k : Nat) (h : k < n) : rdL d (l.take n) k = rdL d l k := by
  by_cases hk : k < l.length
  · rw [rdL_eq d _ k (by simp; omega), rdL_eq d l k hk, List.getElem_take]
  · rw [rdL_out _ _ _ (by simp; omega), rdL_out _ _ _ (by omega)]
theorem rdL_mem {X : Type} (d : X) (l : List X) (k : Nat) (h : k < l.length) : rdL d l k ∈ l := by rw [rdL_eq d l k h]; exact List.getElem_mem h
theorem mem_rdL {X : Type} (d : X) {l : List X} {x : X} (h : x ∈ l) : ∃ k, k < l.length ∧ rdL d l k = x := by
  obtain ⟨k, hk, e⟩ := List.getElem_of_mem h
  exact ⟨k, hk, by rw [rdL_eq d l k hk, e]⟩
theorem subL_take {X : Type} (s : List X) (n : Nat) : subL s 0 n = s.take n := by simp [subL]
theorem subL_drop {X : Type} (s : List X) (n : Nat) : subL s n (s.length - n) = s.drop n := by
  simp only [subL]
  exact List.take_of_length_le (by simp)
theorem lenL_eq {X : Type} (l : List X) : lenL l = l.length := rfl
theorem appL_eq {X : Type} (l m : List X) : appL l m = l ++ m := rfl
/-- Go's comparison is equality. -/
theorem eqb_iff : ∀ (t : Ty), t.eqOk = true → ∀ x y : t.D, Ty.eqb t x y = true ↔ x = y := by
  intro t
  induction t with
  | int k => intro _ x y; simp only [Ty.eqb, decide_eq_true_eq]; exact ⟨fun h => I.ext' h, fun h => by rw [h]⟩
  | bool => intro _ x y; exact (by decide : ∀ a b : Bool, (a == b) = true ↔ a = b) x y
  | nil => intro _ x y; exact ⟨fun _ => rfl, fun _ => rfl⟩
  | cons a b iha ihb =>
    intro h x y
    simp only [Ty.eqOk, Bool.and_eq_true] at h
    simp only [Ty.eqb, Bool.and_eq_true, iha h.1, ihb h.2]
    obtain ⟨x1, x2⟩ := x
    obtain ⟨y1, y2⟩ := y
    exact ⟨fun h => by rw [show x1 = y1 from h.1, show x2 = y2 from h.2], fun h => ⟨congrArg Prod.fst h, congrArg Prod.snd h⟩⟩
  | arr n t ih =>
    intro h x y
    have key : ∀ (n : Nat) (x y : Arr t.D n), Arr.eqb t.eqb n x y = true ↔ x = y := by
      intro n
      induction n with
      | zero => intro x y; exact ⟨fun _ => rfl, fun _ => rfl⟩
      | succ n ihn =>
        intro x y
        simp only [Arr.eqb, Bool.and_eq_true, ih h, ihn]
        obtain ⟨x1, x2⟩ := x
        obtain ⟨y1, y2⟩ := y
        exact ⟨fun h => by rw [show x1 = y1 from h.1, show x2 = y2 from h.2], fun h => ⟨congrArg Prod.fst h, congrArg Prod.snd h⟩⟩
    exact key n x y
  | str => intro h; cases h
  | sl t _ => intro h; cases h
  | opq => intro h; cases h
theorem eqb_self' {t : Ty} (h : t.eqOk = true) (x : t.D) : Ty.eqb t x x = true := (eqb_iff t h x x).2 rfl
theorem fits_le {n : Nat} (h : n ≤ 1073741824) : fitsLen n = true := iff_fits.2 h
end Sym

/- Binary heaps in lists. -/
namespace Sym
open Go

/-- A strict order with ties. -/
structure SOrd {α : Type} (lt : α → α → Bool) : Prop where
  asymm : ∀ a b, lt a b = true → lt b a = false
  trans : ∀ a b c, lt b a = false → lt c b = false → lt c a = false
section
variable {α : Type} {lt : α → α → Bool} (d : α)

theorem SOrd.refl (h : SOrd lt) (a : α) : lt a a = false := by
  cases e : lt a a with
  | false => rfl
  | true => have := h.asymm a a e; rw [e] at this; cases this

/-- Nobody below n is less than the one above it; e is left out. -/
def HeapX (lt : α → α → Bool) (n : Nat) (e : Nat → Prop) (l : List α) : Prop := ∀ k, 0 < k → k < n → ¬ e k → lt (rdL d l k) (rdL d l ((k - 1) / 2)) = false

def swapL (l : List α) (i j : Nat) : List α := setL (setL l i (rdL d l j)) j (rdL d l i)

theorem swapL_len (l : List α) (i j : Nat) : (swapL d l i j).length = l.length := by simp [swapL, setAt_eq]
theorem swapL_perm {l : List α} {i j : Nat} (hi : i < l.length) (hj : j < l.length) : (swapL d l i j).Perm l := by
  unfold swapL
  simp only [setL, setAt_eq, rdL_eq d l i hi, rdL_eq d l j hj]
  exact List.set_set_perm hi hj
theorem swapL_at {l : List α} {i j : Nat} (hi : i < l.length) (hj : j < l.length) (k : Nat) : rdL d (swapL d l i j) k = if k = j then rdL d l i else if k = i then rdL d l j else rdL d l k := by
  unfold swapL
  simp only [setL, rdL_set]
  have h1 : (setAt l i (rdL d l j)).length = l.length := by simp [setAt_eq]
  rw [h1]
  by_cases h : k = j
  · simp [h, hj]
  · by_cases h2 : k = i
    · subst h2; simp [h, hi]
    · simp [h, h2]

/-- One step up. -/
theorem up_step (ho : SOrd lt) {n j : Nat} {l : List α} (hn : n ≤ l.length) (hj : j < n) (h0 : 0 < j)
    (h1 : HeapX d lt n (fun k => k = j) l) (h2 : ∀ k, 0 < k → k < n → (k - 1) / 2 = j → lt (rdL d l k) (rdL d l ((j - 1) / 2)) = false)
    (hl : lt (rdL d l j) (rdL d l ((j - 1) / 2)) = true) :
    HeapX d lt n (fun k => k = (j - 1) / 2) (swapL d l ((j - 1) / 2) j) ∧
    ∀ k, 0 < k → k < n → (k - 1) / 2 = (j - 1) / 2 → 0 < (j - 1) / 2 → lt (rdL d (swapL d l ((j - 1) / 2) j) k) (rdL d (swapL d l ((j - 1) / 2) j) (((j - 1) / 2 - 1) / 2)) = false := by
  obtain ⟨p, hp⟩ : ∃ p, p = (j - 1) / 2 := ⟨_, rfl⟩
  rw [← hp] at hl h2 ⊢
  have hpj : p < j := by omega
  have ha := swapL_at d (l := l) (i := p) (j := j) (by omega) (by omega)
  refine ⟨fun k hk hkn he => ?_, fun k hk hkn he hp0 => ?_⟩
  · rw [ha, ha]
    by_cases e1 : k = j
    · rw [if_pos e1, if_neg (by omega), if_pos (by omega)]
      exact ho.asymm _ _ hl
    · rw [if_neg e1, if_neg he]
      by_cases e2 : (k - 1) / 2 = j
      · rw [if_pos e2]
        exact h2 k hk hkn e2
      · rw [if_neg e2]
        by_cases e3 : (k - 1) / 2 = p
        · rw [if_pos e3]
          have := h1 k hk hkn e1
          rw [e3] at this
          exact ho.trans _ _ _ (ho.asymm _ _ hl) this
        · rw [if_neg e3]
          exact h1 k hk hkn e1
  · rw [ha, ha, if_neg (show (p - 1) / 2 ≠ j by omega), if_neg (show (p - 1) / 2 ≠ p by omega)]
    have hpp := h1 p hp0 (by omega) (by omega)
    by_cases e1 : k = j
    · rw [if_pos e1]; exact hpp
    · rw [if_neg e1, if_neg (by omega)]
      have := h1 k hk hkn e1
      rw [he] at this
      exact ho.trans _ _ _ hpp this

theorem up_done {n j : Nat} {l : List α} (h1 : HeapX d lt n (fun k => k = j) l) (h : j = 0 ∨ lt (rdL d l j) (rdL d l ((j - 1) / 2)) = false) : HeapX d lt n (fun _ => False) l := by
  intro k hk hkn _
  by_cases e : k = j
  · subst e
    exact h.resolve_left (by omega)
  · exact h1 k hk hkn e

/-- One step down. -/
theorem down_step (ho : SOrd lt) {n i j : Nat} {l : List α} (hn : n ≤ l.length) (hj : j < n) (hp : (j - 1) / 2 = i) (hj0 : 0 < j)
    (h1 : HeapX d lt n (fun k => (k - 1) / 2 = i) l) (h2 : ∀ k, 0 < k → k < n → (k - 1) / 2 = i → 0 < i → lt (rdL d l k) (rdL d l ((i - 1) / 2)) = false)
    (hmin : ∀ k, 0 < k → k < n → (k - 1) / 2 = i → lt (rdL d l k) (rdL d l j) = false) (hl : lt (rdL d l j) (rdL d l i) = true) :
    HeapX d lt n (fun k => (k - 1) / 2 = j) (swapL d l i j) ∧
    ∀ k, 0 < k → k < n → (k - 1) / 2 = j → 0 < j → lt (rdL d (swapL d l i j) k) (rdL d (swapL d l i j) ((j - 1) / 2)) = false := by
  have hij : i < j := by omega
  have ha := swapL_at d (l := l) (i := i) (j := j) (by omega) (by omega)
  refine ⟨fun k hk hkn he => ?_, fun k hk hkn he _ => ?_⟩
  · rw [ha, ha, if_neg he]
    by_cases e1 : k = i
    · subst e1
      rw [if_neg (by omega), if_pos rfl, if_neg (by omega)]
      exact h2 j hj0 hj hp hk
    · by_cases e2 : k = j
      · rw [if_pos e2, if_pos (by rw [e2]; exact hp)]
        exact ho.asymm _ _ hl
      · rw [if_neg e2, if_neg e1]
        by_cases e3 : (k - 1) / 2 = i
        · rw [if_pos e3]
          exact hmin k hk hkn e3
        · rw [if_neg e3]
          exact h1 k hk hkn e3
  · rw [ha, ha, if_neg (show k ≠ j by omega), if_neg (show k ≠ i by omega), if_neg (show (j - 1) / 2 ≠ j by omega), if_pos hp]
    have := h1 k hk hkn (by omega)
    rw [he] at this
    exact this

theorem down_done {n i : Nat} {l : List α} (h1 : HeapX d lt n (fun k => (k - 1) / 2 = i) l) (h : ∀ k, 0 < k → k < n → (k - 1) / 2 = i → lt (rdL d l k) (rdL d l i) = false) : HeapX d lt n (fun _ => False) l := by
  intro k hk hkn _
  by_cases e : (k - 1) / 2 = i
  · rw [e]; exact h k hk hkn e
  · exact h1 k hk hkn e

/-- The first is least. -/
theorem heap_min (ho : SOrd lt) {n : Nat} {l : List α} (h : HeapX d lt n (fun _ => False) l) : ∀ k, k < n → lt (rdL d l k) (rdL d l 0) = false := by
  intro k
  induction k using Nat.strongRecOn with
  | ind k ih =>
    intro hk
    rcases Nat.eq_zero_or_pos k with rfl | h0
    · exact ho.refl _
    · exact ho.trans _ _ _ (ih ((k - 1) / 2) (by omega) (by omega)) (h k h0 hk (fun h => h))

/-- The first and the last change places: below the last it is a heap but for the first. -/
theorem pop_start {n : Nat} {l : List α} (hl : l.length = n + 1) (h : HeapX d lt (n + 1) (fun _ => False) l) :
    HeapX d lt n (fun k => (k - 1) / 2 = 0) (swapL d l 0 n) := by
  have ha := swapL_at d (l := l) (i := 0) (j := n) (by omega) (by omega)
  intro k hk hkn he
  rw [ha, ha, if_neg (by omega), if_neg (by omega), if_neg (by omega), if_neg he]
  exact h k hk (by omega) (fun h => h)

theorem heap_take {n : Nat} {l : List α} (h : HeapX d lt n (fun _ => False) l) : HeapX d lt n (fun _ => False) (l.take n) := by
  intro k hk hkn he
  rw [rdL_take d l n k hkn, rdL_take d l n _ (by omega)]
  exact h k hk hkn he

theorem push_start {n : Nat} {l : List α} {x : α} (hl : l.length = n) (h : HeapX d lt n (fun _ => False) l) :
    HeapX d lt (n + 1) (fun k => k = n) (l ++ [x]) := by
  intro k hk hkn he
  rw [rdL_app, rdL_app, if_pos (by omega), if_pos (by omega)]
  exact h k hk (by omega) (fun h => h)

/-- What a queue still holds: h is a heap of the list r, which is in order, and in which equals are the same. -/
structure Queued (lt : α → α → Bool) (h r : List α) : Prop where
  heap : HeapX d lt h.length (fun _ => False) h
  perm : h.Perm r
  ord : r.Pairwise fun a b => lt b a = false
  anti : ∀ a ∈ r, ∀ b ∈ r, lt b a = false → lt a b = false → a = b

theorem Queued.len {h r : List α} (q : Queued d lt h r) : h.length = r.length := q.perm.length_eq

theorem Queued.first (ho : SOrd lt) {h r : List α} {m : α} (q : Queued d lt h (m :: r)) : rdL d h 0 = m := by
  have h0 : 0 < h.length := by rw [q.len]; simp
  have hm := rdL_mem d h 0 h0
  have hr := q.perm.mem_iff.1 hm
  obtain ⟨k, hk, e⟩ := mem_rdL d (q.perm.mem_iff.2 (List.mem_cons_self (a := m) (l := r)))
  have h1 := heap_min d ho q.heap k hk
  rw [e] at h1
  rcases List.mem_cons.1 hr with h2 | h2
  · exact h2
  · exact q.anti _ hr _ (List.mem_cons_self ..) h1 ((List.pairwise_cons.1 q.ord).1 _ h2)

/-- Behind Pop. -/
theorem Queued.next {h r : List α} {m : α} (q : Queued d lt h (m :: r)) {h' : List α} (h1 : HeapX d lt h'.length (fun _ => False) h') (hp : h.Perm (h' ++ [m])) : Queued d lt h' r := by
  have hp2 : (m :: h').Perm (m :: r) := (List.perm_append_comm (l₁ := [m]) (l₂ := h')).trans (hp.symm.trans q.perm)
  exact ⟨h1, (List.perm_cons m).1 hp2, (List.pairwise_cons.1 q.ord).2, fun a ha b hb => q.anti a (List.mem_cons_of_mem _ ha) b (List.mem_cons_of_mem _ hb)⟩
end
end Sym

/- The queue of debts: each function. -/
namespace Sym
open Go

abbrev Item : Type := S_debtqueue_item
abbrev Post : Type := S_api_Poster
noncomputable abbrev dI : Item := Z_S_debtqueue_item
noncomputable abbrev dP : Post := Z_S_api_Poster
abbrev Post.addr (p : Post) : I .u64 := p.1
abbrev Post.due (p : Post) : U := p.2.1
abbrev Post.since (p : Post) : I .u64 := p.2.2.2.2.2.1

/-- The order of payment. -/
def lessI (a b : Item) : Bool :=
  brn (I.neb (Post.since a.1) (Post.since b.1)) (I.ltb (Post.since a.1) (Post.since b.1))
    (brn (I.neb (Post.addr a.1) (Post.addr b.1)) (I.ltb (Post.addr a.1) (Post.addr b.1)) (I.ltb a.2.1 b.2.1))

theorem lessI_iff (a b : Item) : lessI a b = true ↔ (Post.since a.1).val < (Post.since b.1).val ∨ ((Post.since a.1).val = (Post.since b.1).val ∧ ((Post.addr a.1).val < (Post.addr b.1).val ∨ ((Post.addr a.1).val = (Post.addr b.1).val ∧ a.2.1.val < b.2.1.val))) := by
  unfold lessI
  cases h : I.neb (Post.since a.1) (Post.since b.1) with
  | true =>
    have h := iff_neb.1 h
    show I.ltb _ _ = true ↔ _
    rw [iff_ltb]
    omega
  | false =>
    have h := niff_neb.1 h
    show brn _ _ _ = true ↔ _
    cases h2 : I.neb (Post.addr a.1) (Post.addr b.1) with
    | true =>
      have h2 := iff_neb.1 h2
      show I.ltb _ _ = true ↔ _
      rw [iff_ltb]
      omega
    | false =>
      have h2 := niff_neb.1 h2
      show I.ltb _ _ = true ↔ _
      rw [iff_ltb]
      omega

theorem lessI_not (a b : Item) : lessI a b = false ↔ ¬ ((Post.since a.1).val < (Post.since b.1).val ∨ ((Post.since a.1).val = (Post.since b.1).val ∧ ((Post.addr a.1).val < (Post.addr b.1).val ∨ ((Post.addr a.1).val = (Post.addr b.1).val ∧ a.2.1.val < b.2.1.val)))) := by
  rw [← lessI_iff]
  simp

theorem lessO : SOrd lessI where
  asymm a b h := by
    have h := (lessI_iff a b).1 h
    rw [lessI_not]
    omega
  trans a b c h1 h2 := by
    have h1 := (lessI_not _ _).1 h1
    have h2 := (lessI_not _ _).1 h2
    rw [lessI_not]
    omega

theorem of64_0 : I.of .i64 0 = i6 0 := rfl
theorem of64_1 : I.of .i64 1 = i6 1 := rfl
theorem of64_2 : I.of .i64 2 = i6 2 := rfl
theorem i6_half (j : Nat) (h : j < 9223372036854775808) : I.quo (I.sub (i6 j) (i6 1)) (i6 2) = i6 ((j - 1) / 2) := by
  rcases Nat.eq_zero_or_pos j with rfl | h0
  · apply I.ext'; decide
  · rw [i6_sub h h0]
    apply I.ext'
    rw [quo_i64 (by rw [i6_val (by omega)]; omega) (by rw [i6_val (by omega)]; omega), i6_val (by omega), i6_val (by omega), i6_val (by omega)]
    omega

abbrev BIG : Nat := 1073741824

theorem Less_eq {l : List Item} {i j : Nat} (hi : i < l.length) (hj : j < l.length) (hl : l.length ≤ BIG) :
    debtqueue_items_Less ((l, i6 i, i6 j, ()), ()) = some ((lessI (rdL dI l i) (rdL dI l j), ()), ()) := by
  have hl : l.length ≤ 1073741824 := hl
  refine Wp.out (T := fun o => o = some ((lessI (rdL dI l i) (rdL dI l j), ()), ())) ?_
  unfold debtqueue_items_Less
  refine Wp.brnT (i6_inB hi (by omega)) (Wp.brnT (i6_inB hj (by omega)) ?_)
  simp only [i6_nat (show i < 9223372036854775808 by omega), i6_nat (show j < 9223372036854775808 by omega)]
  unfold lessI
  refine Wp.brn (fun h => ?_) (fun h => ?_)
  · rw [show I.neb (Post.since (rdL dI l i).1) (Post.since (rdL dI l j).1) = true from h]
    rfl
  · rw [show I.neb (Post.since (rdL dI l i).1) (Post.since (rdL dI l j).1) = false from h]
    refine Wp.brn (fun h => ?_) (fun h => ?_)
    · rw [show I.neb (Post.addr (rdL dI l i).1) (Post.addr (rdL dI l j).1) = true from h]
      rfl
    · rw [show I.neb (Post.addr (rdL dI l i).1) (Post.addr (rdL dI l j).1) = false from h]
      rfl

theorem Len_eq {l : List Item} : debtqueue_items_Len ((l, ()), ()) = some ((i6 l.length, ()), ()) := rfl

/-- Push. -/
theorem Push_ok {h : List Item} {x : Item} (hh : HeapX dI (lt := lessI) h.length (fun _ => False) h) (hl : h.length + 1 ≤ BIG) :
    ∃ y, container_heap_Push (((), ((x, ()))), (((), ()), (h, ()))) = some y ∧ ∃ h', y = ((), (((), ()), (h', ()))) ∧ HeapX dI (lt := lessI) h'.length (fun _ => False) h' ∧ h'.Perm (x :: h) := by
  have hl : h.length + 1 ≤ 1073741824 := hl
  refine Wp.out (T := fun o => ∃ y, o = some y ∧ ∃ h', y = ((), (((), ()), (h', ()))) ∧ HeapX dI (lt := lessI) h'.length (fun _ => False) h' ∧ h'.Perm (x :: h)) ?_
  unfold container_heap_Push
  refine Wp.brnT (fits_le (by show (h ++ [x]).length ≤ _; simp; omega)) ?_
  refine Wp.optF Len_eq ?_
  have hlen : (appL h (x :: [])).length = h.length + 1 := by simp [appL]
  simp only [hlen, of64_1, i6_sub (show h.length + 1 < 9223372036854775808 by omega) (show 1 ≤ h.length + 1 by omega), Nat.add_sub_cancel]
  refine Wp.iter (fun s => ∃ j l, s = (((), (i6 j, ())), (((), ()), (l, ()))) ∧ j < h.length + 1 ∧ l.length = h.length + 1 ∧ l.Perm (x :: h) ∧ HeapX dI (lt := lessI) (h.length + 1) (fun k => k = j) l ∧
      ∀ k, 0 < k → k < h.length + 1 → (k - 1) / 2 = j → 0 < j → lessI (rdL dI l k) (rdL dI l ((j - 1) / 2)) = false) (fun s => s.1.2.1.val.toNat) ?_ ⟨h.length, h ++ [x], rfl, by omega, by simp, (List.perm_append_comm (l₁ := h) (l₂ := [x])), push_start dI rfl hh, fun k h0 hk he _ => by omega⟩ ?_
  · rintro s ⟨j, l, rfl, hj, hll, hp, h1, h2⟩
    simp only [of64_1, of64_2, i6_half j (by omega), i6_eqb (show (j - 1) / 2 < 9223372036854775808 by omega) (show j < 9223372036854775808 by omega)]
    refine Wp.brn (fun he => ?_) (fun he => ?_)
    · have he := of_decide_eq_true he
      exact Wp.done ⟨_, rfl, l, rfl, by rw [hll]; exact up_done dI h1 (.inl (by omega)), hp⟩
    · have he := of_decide_eq_false he
      refine Wp.optF (Less_eq (l := l) (by omega) (by omega) (by show l.length ≤ 1073741824; omega)) ?_
      refine Wp.brn (fun hc => ?_) (fun hc => ?_)
      · exact Wp.done ⟨_, rfl, l, rfl, by rw [hll]; exact up_done dI h1 (.inr (by simpa [bnot] using hc)), hp⟩
      · have hc : lessI (rdL dI l j) (rdL dI l ((j - 1) / 2)) = true := by simpa [bnot] using hc
        simp only [i6_nat (show j < 9223372036854775808 by omega), i6_nat (show (j - 1) / 2 < 9223372036854775808 by omega)]
        refine Wp.brnT (i6_inB (by rw [lenL_eq]; omega) (by omega)) (Wp.brnT (i6_inB (by rw [lenL_eq]; omega) (by omega)) (Wp.brnT (i6_inB (by rw [lenL_eq]; omega) (by omega)) (Wp.brnT (i6_inB (by rw [lenL_eq, setL, setAt_eq, List.length_set]; omega) (by omega)) ?_)))
        have ⟨g1, g2⟩ := up_step dI lessO (by omega) hj (by omega) h1 (fun k a b c => h2 k a b c (by omega)) hc
        refine Wp.again ⟨(j - 1) / 2, swapL dI l ((j - 1) / 2) j, rfl, by omega, by rw [swapL_len]; exact hll, (swapL_perm dI (by omega) (by omega)).trans hp, g1, g2⟩ ?_
        show (i6 ((j - 1) / 2)).val.toNat < (i6 j).val.toNat
        rw [i6_val (by omega), i6_val (by omega)]
        omega
  · show (i6 h.length).val.toNat < K0
    rw [i6_val (by omega), K0_eq]
    omega
end Sym

/- The queue of debts: Len, Peek, Pop. -/
namespace Sym
open Go

abbrev QOf (h r : List Item) : Prop := Queued dI lessI h r

theorem QLen_eq (h : List Item) : debtqueue_Queue_Len ((), (((), ()), (h, ()))) = some ((i6 h.length, ()), (((), ()), (h, ()))) := rfl

theorem QOf.nil {h : List Item} (q : QOf h []) : h = [] := List.eq_nil_of_length_eq_zero q.len

theorem Peek_nil : debtqueue_Queue_Peek ((), (((), ()), ([], ()))) = some ((dP, (false, ())), (((), ()), ([], ()))) := rfl
theorem Peek_ok {h r : List Item} {m : Item} (q : QOf h (m :: r)) (hl : h.length ≤ BIG) : debtqueue_Queue_Peek ((), (((), ()), (h, ()))) = some ((m.1, (true, ())), (((), ()), (h, ()))) := by
  have hl : h.length ≤ 1073741824 := hl
  refine Wp.out (T := fun o => o = some ((m.1, (true, ())), (((), ()), (h, ())))) ?_
  have h0 : 0 < h.length := by rw [q.len]; simp
  unfold debtqueue_Queue_Peek
  refine Wp.optF (QLen_eq h) ?_
  simp only [of64_0, i6_eqb (show h.length < 9223372036854775808 by omega) (show 0 < 9223372036854775808 by omega)]
  refine Wp.brnF (decide_eq_false (by omega)) (Wp.brnT (i6_inB h0 (by omega)) ?_)
  show some _ = some _
  rw [show rdL Z_S_debtqueue_item h 0 = m from q.first dI lessO]
  rfl

theorem Pop_nil : debtqueue_Queue_Pop ((), (((), ()), ([], ()))) = some ((dP, (false, ())), (((), ()), ([], ()))) := rfl

theorem take_last {X : Type} (d : X) {l : List X} {n : Nat} (h : l.length = n + 1) : l = l.take n ++ [rdL d l n] := by
  rw [rdL_eq d l n (by omega)]
  rw [List.take_append_getElem]
  exact (List.take_of_length_le (by omega)).symm

theorem Pop_ok {h r : List Item} {m : Item} (q : QOf h (m :: r)) (hl : h.length ≤ BIG) :
    ∃ y, debtqueue_Queue_Pop ((), (((), ()), (h, ()))) = some y ∧ ∃ h', y = ((m.1, (true, ())), (((), ()), (h', ()))) ∧ QOf h' r := by
  have hl : h.length ≤ 1073741824 := hl
  obtain ⟨n, hn⟩ : ∃ n, h.length = n + 1 := ⟨r.length, by rw [q.len]; simp⟩
  refine Wp.out (T := fun o => ∃ y, o = some y ∧ ∃ h', y = ((m.1, (true, ())), (((), ()), (h', ()))) ∧ QOf h' r) ?_
  unfold debtqueue_Queue_Pop
  refine Wp.optF (Peek_ok q hl) ?_
  refine Wp.brnT rfl ?_
  refine Wp.optF Len_eq ?_
  simp only [hn, lenL_eq, of64_0, of64_1, i6_sub (show n + 1 < 9223372036854775808 by omega) (show 1 ≤ n + 1 by omega), Nat.add_sub_cancel, i6_nat (show n < 9223372036854775808 by omega)]
  refine Wp.brnT (i6_inB (by omega) (by omega)) (Wp.brnT (i6_inB (by omega) (by omega)) (Wp.brnT (i6_inB (by omega) (by omega)) (Wp.brnT (i6_inB (by rw [setL, setAt_eq, List.length_set]; omega) (by omega)) ?_)))
  have fin : ∀ l : List Item, l.length = n + 1 → l.Perm h → rdL dI l n = m → HeapX dI (lt := lessI) n (fun _ => False) l →
      ∃ h', ((((m.1, (true, ())), (((), ()), (l.take n, ())))) : (S_api_Poster × (Bool × Unit)) × ((Unit × Unit) × ((List S_debtqueue_item) × Unit))) = ((m.1, (true, ())), (((), ()), (h', ()))) ∧ QOf h' r := by
    intro l hll hp hm hh
    refine ⟨l.take n, rfl, q.next dI ?_ ?_⟩
    · rw [List.length_take, hll, Nat.min_eq_left (by omega)]
      exact heap_take dI hh
    · rw [← hm, ← take_last dI hll]
      exact hp.symm
  refine Wp.iter (fun s => ∃ i l, s = (((), (i6 0, (i6 n, (i6 i, ((), (true, ())))))), (((), ()), (l, (dP, (m.1, ()))))) ∧ i ≤ n ∧ l.length = n + 1 ∧ l.Perm h ∧ rdL dI l n = m ∧ HeapX dI (lt := lessI) n (fun k => (k - 1) / 2 = i) l ∧
      ∀ k, 0 < k → k < n → (k - 1) / 2 = i → 0 < i → lessI (rdL dI l k) (rdL dI l ((i - 1) / 2)) = false) (fun s => n - s.1.2.2.2.1.val.toNat) ?_ ⟨0, swapL dI h 0 n, rfl, by omega, by rw [swapL_len]; exact hn, swapL_perm dI (by omega) (by omega), ?_, ?_, fun k _ _ _ h0 => absurd h0 (by omega)⟩ ?_
  · rintro s ⟨i, l, rfl, hi, hll, hp, hm, h1, h2⟩
    have e1 : I.add (I.mul (i6 2) (i6 i)) (i6 1) = i6 (2 * i + 1) := by
      apply I.ext'
      have e0 : (I.mul (i6 2) (i6 i)).val = 2 * i := by rw [mul_i64 (by rw [i6_val (by omega), i6_val (by omega)]; omega), i6_val (by omega), i6_val (by omega)]; rfl
      rw [add_i64 (by rw [e0, i6_val (by omega)]; omega), e0, i6_val (by omega), i6_val (by omega)]
      omega
    simp only [hll, i6_ofNat, of64_0, of64_1, of64_2, e1, i6_add (show 2 * i + 1 + 1 < 9223372036854775808 by omega), i6_sub (show n + 1 < 9223372036854775808 by omega) (show 1 ≤ n + 1 by omega), Nat.add_sub_cancel, i6_nat (show n < 9223372036854775808 by omega), i6_nat (show i < 9223372036854775808 by omega), i6_nat (show 2 * i + 1 < 9223372036854775808 by omega), i6_nat (show 2 * i + 1 + 1 < 9223372036854775808 by omega),
      i6_leb (show n < 9223372036854775808 by omega) (show 2 * i + 1 < 9223372036854775808 by omega), i6_ltb (show 2 * i + 1 < 9223372036854775808 by omega) (show 0 < 9223372036854775808 by omega), i6_ltb (show 2 * i + 1 + 1 < 9223372036854775808 by omega) (show n < 9223372036854775808 by omega), subL_take]
    have b1 : inB (i6 n) (n + 1) = true := i6_inB (by omega) (by omega)
    have b2 : inB' (i6 n) (n + 1) = true := i6_inB' (by omega) (by omega)
    have bi : inB (i6 i) (n + 1) = true := i6_inB (by omega) (by omega)
    have hset : ∀ (k : Nat) (v : Item), (setL l k v).length = n + 1 := fun k v => by rw [setL, setAt_eq, List.length_set]; exact hll
    have step : ∀ j, j < n → (j - 1) / 2 = i → 0 < j → (∀ k, 0 < k → k < n → (k - 1) / 2 = i → lessI (rdL dI l k) (rdL dI l j) = false) → lessI (rdL dI l j) (rdL dI l i) = true →
        (∃ i' l', ((((), (i6 0, (i6 n, (i6 j, ((), (true, ())))))), (((), ()), (setL (setL l i (rdL dI l j)) j (rdL dI l i), (dP, (m.1, ()))))) : (Unit × (I .i64 × (I .i64 × (I .i64 × (Unit × (Bool × Unit)))))) × ((Unit × Unit) × (List Item × (Post × (Post × Unit))))) = (((), (i6 0, (i6 n, (i6 i', ((), (true, ())))))), (((), ()), (l', (dP, (m.1, ()))))) ∧ i' ≤ n ∧ l'.length = n + 1 ∧ l'.Perm h ∧ rdL dI l' n = m ∧ HeapX dI (lt := lessI) n (fun k => (k - 1) / 2 = i') l' ∧
          ∀ k, 0 < k → k < n → (k - 1) / 2 = i' → 0 < i' → lessI (rdL dI l' k) (rdL dI l' ((i' - 1) / 2)) = false) ∧ n - (i6 j).val.toNat < n - (i6 i).val.toNat := by
      intro j hj hji hj0 hmin hlt
      have ⟨g1, g2⟩ := down_step dI lessO (show n ≤ l.length by omega) hj hji hj0 h1 h2 hmin hlt
      refine ⟨⟨j, swapL dI l i j, rfl, by omega, by rw [swapL_len]; exact hll, (swapL_perm dI (by omega) (by omega)).trans hp, ?_, g1, g2⟩, ?_⟩
      · rw [swapL_at dI (by omega) (by omega), if_neg (by omega), if_neg (by omega)]
        exact hm
      · rw [i6_val (by omega), i6_val (by omega)]
        omega
    refine Wp.brn (fun hc => ?_) (fun hc => ?_)
    · have hc := of_decide_eq_true hc
      refine Wp.done (Wp.brnT b1 (Wp.brnT b2 ?_))
      exact ⟨_, rfl, fin l hll hp hm (down_done dI h1 fun k _ hk e => by omega)⟩
    · have hc := of_decide_eq_false hc
      refine Wp.brnF (decide_eq_false (by omega)) ?_
      refine Wp.brn (fun hc2 => ?_) (fun hc2 => ?_)
      · have hc2 := of_decide_eq_true hc2
        refine Wp.optF (Less_eq (l := l) (i := 2 * i + 1 + 1) (j := 2 * i + 1) (by omega) (by omega) (by show l.length ≤ 1073741824; omega)) ?_
        refine Wp.brn (fun hs => ?_) (fun hs => ?_)
        · have hs : lessI (rdL dI l (2 * i + 1 + 1)) (rdL dI l (2 * i + 1)) = true := hs
          have hmin : ∀ k, 0 < k → k < n → (k - 1) / 2 = i → lessI (rdL dI l k) (rdL dI l (2 * i + 1 + 1)) = false := by
            intro k hk hkn he
            rcases (by omega : k = 2 * i + 1 ∨ k = 2 * i + 1 + 1) with rfl | rfl
            · exact lessO.asymm _ _ hs
            · exact lessO.refl _
          refine Wp.optF (Less_eq (l := l) (i := 2 * i + 1 + 1) (j := i) (by omega) (by omega) (by show l.length ≤ 1073741824; omega)) ?_
          refine Wp.brn (fun hd => ?_) (fun hd => ?_)
          · have hd : lessI (rdL dI l (2 * i + 1 + 1)) (rdL dI l i) = false := by simpa [bnot] using hd
            refine Wp.done (Wp.brnT b1 (Wp.brnT b2 ?_))
            exact ⟨_, rfl, fin l hll hp hm (down_done dI h1 fun k hk hkn e => lessO.trans _ _ _ hd (hmin k hk hkn e))⟩
          · have hd : lessI (rdL dI l (2 * i + 1 + 1)) (rdL dI l i) = true := by simpa [bnot] using hd
            have bj : inB (i6 (2 * i + 1 + 1)) (n + 1) = true := i6_inB (by omega) (by omega)
            refine Wp.brnT bj (Wp.brnT bi (Wp.brnT bi (Wp.brnT (by rw [hset]; exact bj) ?_)))
            have ⟨g1, g2⟩ := step (2 * i + 1 + 1) hc2 (by omega) (by omega) hmin hd
            exact Wp.again g1 g2
        · have hs : lessI (rdL dI l (2 * i + 1 + 1)) (rdL dI l (2 * i + 1)) = false := hs
          have hmin : ∀ k, 0 < k → k < n → (k - 1) / 2 = i → lessI (rdL dI l k) (rdL dI l (2 * i + 1)) = false := by
            intro k hk hkn he
            rcases (by omega : k = 2 * i + 1 ∨ k = 2 * i + 1 + 1) with rfl | rfl
            · exact lessO.refl _
            · exact hs
          refine Wp.optF (Less_eq (l := l) (i := 2 * i + 1) (j := i) (by omega) (by omega) (by show l.length ≤ 1073741824; omega)) ?_
          refine Wp.brn (fun hd => ?_) (fun hd => ?_)
          · have hd : lessI (rdL dI l (2 * i + 1)) (rdL dI l i) = false := by simpa [bnot] using hd
            refine Wp.done (Wp.brnT b1 (Wp.brnT b2 ?_))
            exact ⟨_, rfl, fin l hll hp hm (down_done dI h1 fun k hk hkn e => lessO.trans _ _ _ hd (hmin k hk hkn e))⟩
          · have hd : lessI (rdL dI l (2 * i + 1)) (rdL dI l i) = true := by simpa [bnot] using hd
            have bj : inB (i6 (2 * i + 1)) (n + 1) = true := i6_inB (by omega) (by omega)
            refine Wp.brnT bj (Wp.brnT bi (Wp.brnT bi (Wp.brnT (by rw [hset]; exact bj) ?_)))
            have ⟨g1, g2⟩ := step (2 * i + 1) (by omega) (by omega) (by omega) hmin hd
            exact Wp.again g1 g2
      · have hc2 := of_decide_eq_false hc2
        have hmin : ∀ k, 0 < k → k < n → (k - 1) / 2 = i → lessI (rdL dI l k) (rdL dI l (2 * i + 1)) = false := by
          intro k hk hkn he
          rcases (by omega : k = 2 * i + 1) with rfl
          exact lessO.refl _
        refine Wp.optF (Less_eq (l := l) (i := 2 * i + 1) (j := i) (by omega) (by omega) (by show l.length ≤ 1073741824; omega)) ?_
        refine Wp.brn (fun hd => ?_) (fun hd => ?_)
        · have hd : lessI (rdL dI l (2 * i + 1)) (rdL dI l i) = false := by simpa [bnot] using hd
          refine Wp.done (Wp.brnT b1 (Wp.brnT b2 ?_))
          exact ⟨_, rfl, fin l hll hp hm (down_done dI h1 fun k hk hkn e => lessO.trans _ _ _ hd (hmin k hk hkn e))⟩
        · have hd : lessI (rdL dI l (2 * i + 1)) (rdL dI l i) = true := by simpa [bnot] using hd
          have bj : inB (i6 (2 * i + 1)) (n + 1) = true := i6_inB (by omega) (by omega)
          refine Wp.brnT bj (Wp.brnT bi (Wp.brnT bi (Wp.brnT (by rw [hset]; exact bj) ?_)))
          have ⟨g1, g2⟩ := step (2 * i + 1) (by omega) (by omega) (by omega) hmin hd
          exact Wp.again g1 g2
  · rw [swapL_at dI (by omega) (by omega), if_pos rfl]
    exact q.first dI lessO
  · exact pop_start dI hn (by rw [← hn]; exact q.heap)
  · rw [K0_eq]
    show n - _ < _
    omega
end Sym

/- The queue of debts: New, Order and the reference's order. -/
namespace Sym
open Go

/-- Has it a debt? -/
noncomputable def ow (p : Post) : Bool := bnot (Ty.eqb (.arr 4 (.int .u64)) p.2.1 Z_U)

noncomputable def enum : Nat → List Post → List Item
  | _, [] => []
  | k, p :: l => (if ow p = true then [(p, (i6 k, ()))] else []) ++ enum (k + 1) l

theorem enum_app : ∀ (l m : List Post) (k : Nat), enum k (l ++ m) = enum k l ++ enum (k + l.length) m
  | [], m, k => by simp [enum]
  | p :: l, m, k => by
    simp only [List.cons_append, enum, enum_app l m (k + 1), List.append_assoc, List.length_cons]
    rw [show k + 1 + l.length = k + (l.length + 1) by omega]
theorem enum_one (p : Post) (k : Nat) : enum k [p] = if ow p = true then [(p, (i6 k, ()))] else [] := by simp [enum]
theorem enum_len : ∀ (l : List Post) (k : Nat), (enum k l).length ≤ l.length
  | [], k => Nat.le_refl _
  | p :: l, k => by
    have := enum_len l (k + 1)
    simp only [enum, List.length_append, List.length_cons]
    split <;> simp <;> omega
theorem enum_mem : ∀ (l : List Post) (k : Nat) (x : Item), x ∈ enum k l → ∃ i, i < l.length ∧ x = (rdL dP l i, (i6 (k + i), ())) ∧ ow x.1 = true
  | [], k, x, h => by cases h
  | p :: l, k, x, h => by
    simp only [enum, List.mem_append] at h
    rcases h with h | h
    · split at h
      · rename_i hp
        have h := List.mem_singleton.1 h
        subst h
        exact ⟨0, by simp, rfl, hp⟩
      · cases h
    · obtain ⟨i, hi, e, ho⟩ := enum_mem l (k + 1) x h
      exact ⟨i + 1, by simpa using hi, by rw [e, show k + 1 + i = k + (i + 1) by omega]; rfl, ho⟩
theorem enum_take {a : List Post} {i : Nat} (h : i < a.length) : enum 0 (a.take (i + 1)) = enum 0 (a.take i) ++ (if ow (rdL dP a i) = true then [(rdL dP a i, (i6 i, ()))] else []) := by
  rw [List.take_succ_eq_append_getElem h, enum_app, enum_one, List.length_take, Nat.min_eq_left (by omega), Nat.zero_add, rdL_eq dP a i h]

theorem enum_anti {a : List Post} (ha : a.length ≤ 1073741824) {x y : Item} (hx : x ∈ enum 0 a) (hy : y ∈ enum 0 a) (h1 : lessI y x = false) (h2 : lessI x y = false) : x = y := by
  obtain ⟨i, hi, e1, _⟩ := enum_mem _ _ _ hx
  obtain ⟨j, hj, e2, _⟩ := enum_mem _ _ _ hy
  have h1 := (lessI_not _ _).1 h1
  have h2 := (lessI_not _ _).1 h2
  have a1 : x.2.1.val = i := by rw [e1]; show (i6 (0 + i)).val = _; rw [i6_val (by omega)]; omega
  have a2 : y.2.1.val = j := by rw [e2]; show (i6 (0 + j)).val = _; rw [i6_val (by omega)]; omega
  have : i = j := by omega
  subst this
  rw [e1, e2]

/-- The list in the order of payment. -/
noncomputable def sortI (a : List Post) : List Item := (enum 0 a).mergeSort fun x y => !lessI y x

theorem sortI_perm (a : List Post) : (sortI a).Perm (enum 0 a) := List.mergeSort_perm _ _
theorem sortI_ord (a : List Post) : (sortI a).Pairwise fun x y => lessI y x = false := by
  have := List.pairwise_mergeSort (le := fun x y => !lessI y x) (fun x y z h1 h2 => by
    simp only [Bool.not_eq_true'] at *
    exact lessO.trans _ _ _ h1 h2) (fun x y => by
    cases h : lessI y x with
    | false => rfl
    | true => rw [lessO.asymm _ _ h]; rfl) (enum 0 a)
  exact this.imp (by simp)
theorem sortI_only {a : List Post} (ha : a.length ≤ 1073741824) {r : List Item} (hp : r.Perm (enum 0 a)) (ho : r.Pairwise fun x y => lessI y x = false) : r = sortI a :=
  List.Perm.eq_of_pairwise (le := fun x y => lessI y x = false) (fun x y hx hy h1 h2 => enum_anti ha (hp.mem_iff.1 hx) ((sortI_perm a).mem_iff.1 hy) h1 h2) ho (sortI_ord a) (hp.trans (sortI_perm a).symm)
theorem sortI_queued {a : List Post} (ha : a.length ≤ 1073741824) {h : List Item} (hh : HeapX dI (lt := lessI) h.length (fun _ => False) h) (hp : h.Perm (enum 0 a)) : QOf h (sortI a) :=
  ⟨hh, hp.trans (sortI_perm a).symm, sortI_ord a, fun x hx y hy h1 h2 => enum_anti ha ((sortI_perm a).mem_iff.1 hx) ((sortI_perm a).mem_iff.1 hy) h1 h2⟩
theorem sortI_len (a : List Post) : (sortI a).length ≤ a.length := by rw [(sortI_perm a).length_eq]; exact enum_len a 0

theorem ow_t {p : Post} : Ty.eqb (.arr 4 (.int .u64)) p.2.1 Z_U = false → ow p = true := fun h => by unfold ow; rw [h]; rfl
theorem ow_f {p : Post} : Ty.eqb (.arr 4 (.int .u64)) p.2.1 Z_U = true → ow p = false := fun h => by unfold ow; rw [h]; rfl

/-- New. -/
theorem New_ok {a : List Post} (ha : a.length ≤ 1073741824) : ∃ y, debtqueue_New ((a, ()), ()) = some y ∧ ∃ h, y = ((), (((), ()), (h, ()))) ∧ QOf h (sortI a) := by
  refine Wp.out (T := fun o => ∃ y, o = some y ∧ ∃ h, y = ((), (((), ()), (h, ()))) ∧ QOf h (sortI a)) ?_
  unfold debtqueue_New
  simp only [lenL_eq, i6_ofNat, of64_0, of64_1]
  refine Wp.iter (fun s => ∃ i h, s = ((a, (i6 a.length, (i6 i, ()))), (((), ()), (h, ()))) ∧ i ≤ a.length ∧ HeapX dI (lt := lessI) h.length (fun _ => False) h ∧ h.Perm (enum 0 (a.take i))) (fun s => a.length - s.1.2.2.1.val.toNat) ?_ ⟨0, [], rfl, by omega, fun k _ hk => by simp at hk, by simp [enum]⟩ ?_
  · rintro s ⟨i, h, rfl, hi, hh, hp⟩
    simp only [i6_ltb (show i < 9223372036854775808 by omega) (show a.length < 9223372036854775808 by omega), i6_nat (show i < 9223372036854775808 by omega), i6_add (show i + 1 < 9223372036854775808 by omega)]
    have hlen : h.length ≤ i := by
      rw [hp.length_eq]
      exact Nat.le_trans (enum_len _ _) (by rw [List.length_take]; omega)
    refine Wp.brn (fun hc => ?_) (fun hc => ?_)
    · have hc := of_decide_eq_true hc
      have ht := enum_take hc
      refine Wp.brnT (i6_inB (by omega) (by omega)) ?_
      have hm : a.length - (i6 (i + 1)).val.toNat < a.length - (i6 i).val.toNat := by rw [i6_val (by omega), i6_val (by omega)]; omega
      refine Wp.brn (fun ho => ?_) (fun ho => ?_)
      · rw [if_pos (show ow (rdL dP a i) = true from ho)] at ht
        refine Wp.call (Push_ok (x := (rdL dP a i, (i6 i, ()))) hh (by show _ ≤ 1073741824; omega)) ?_
        rintro y ⟨h', rfl, hh', hp'⟩
        refine Wp.again ⟨i + 1, h', rfl, by omega, hh', ?_⟩ hm
        rw [ht]
        exact hp'.trans ((List.Perm.cons _ hp).trans (List.perm_append_comm (l₁ := [_]) (l₂ := _)))
      · rw [if_neg (by rw [show ow (rdL dP a i) = false from ho]; simp), List.append_nil] at ht
        exact Wp.again ⟨i + 1, h, rfl, by omega, hh, by rw [ht]; exact hp⟩ hm
    · have hc := of_decide_eq_false hc
      refine Wp.done ⟨_, rfl, h, rfl, sortI_queued ha hh ?_⟩
      rw [List.take_of_length_le (by omega)] at hp
      exact hp
  · rw [K0_eq]
    show a.length - _ < _
    omega

noncomputable def hdP : List Item → Post
  | [] => dP
  | m :: _ => m.1

theorem Pop_any {h r : List Item} (q : QOf h r) (hl : r.length ≤ 1073741824) :
    ∃ y, debtqueue_Queue_Pop ((), (((), ()), (h, ()))) = some y ∧ ∃ h', y = ((hdP r, (!r.isEmpty, ())), (((), ()), (h', ()))) ∧ QOf h' r.tail := by
  cases r with
  | nil =>
    have := q.nil
    subst this
    exact ⟨_, Pop_nil, [], rfl, q⟩
  | cons m r => exact Pop_ok q (by show _ ≤ 1073741824; rw [q.len]; exact hl)
theorem Peek_any {h r : List Item} (q : QOf h r) (hl : r.length ≤ 1073741824) : debtqueue_Queue_Peek ((), (((), ()), (h, ()))) = some ((hdP r, (!r.isEmpty, ())), (((), ()), (h, ()))) := by
  cases r with
  | nil =>
    have := q.nil
    subst this
    exact Peek_nil
  | cons m r => exact Peek_ok q (by show _ ≤ 1073741824; rw [q.len]; exact hl)

/-- Order. -/
theorem Order_eq {a : List Post} (ha : a.length ≤ 1073741824) : debtqueue_Order ((a, ()), ()) = some (((sortI a).map (fun x => x.1.1), ()), ()) := by
  refine Wp.out (T := fun o => o = some (((sortI a).map (fun x => x.1.1), ()), ())) ?_
  unfold debtqueue_Order
  refine Wp.call (New_ok ha) ?_
  rintro _ ⟨h, rfl, q⟩
  have hs := sortI_len a
  have q : QOf h (sortI a) := q
  refine Wp.call (Pop_any q (by omega)) ?_
  rintro _ ⟨h', rfl, q'⟩
  refine Wp.iter (fun s => ∃ r h out, s = ((!r.isEmpty, ()), (out, (((), ()), (h, (hdP r, ()))))) ∧ QOf h r.tail ∧ out ++ r.map (fun x => x.1.1) = (sortI a).map (fun x => x.1.1) ∧ r.length ≤ 1073741824 ∧ s.2.1.length + r.length = (sortI a).length) (fun s => (sortI a).length - s.2.1.length) ?_ ⟨sortI a, h', [], rfl, q', rfl, by omega, by simp⟩ ?_
  · rintro s ⟨r, h, out, rfl, q, ho, hr, hl⟩
    have hl : out.length + r.length = (sortI a).length := hl
    cases r with
    | nil =>
      refine Wp.brnF rfl (Wp.done ?_)
      show some _ = some _
      rw [← ho, List.map_nil, List.append_nil]
      rfl
    | cons m r =>
      have hl' : out.length + (r.length + 1) = (sortI a).length := hl
      have hr' : r.length + 1 ≤ 1073741824 := hr
      refine Wp.brnT rfl (Wp.brnT (fits_le (by show (out ++ [m.1.1]).length ≤ _; simp; omega)) ?_)
      refine Wp.call (Pop_any (r := r) q (by omega)) ?_
      rintro _ ⟨h', rfl, q'⟩
      refine Wp.again ⟨r, h', out ++ [m.1.1], rfl, q', by rw [← ho]; simp, by omega, by show (out ++ [m.1.1]).length + _ = _; simp; omega⟩ ?_
      show (sortI a).length - (out ++ [m.1.1]).length < (sortI a).length - out.length
      simp
      omega
  · rw [K0_eq]
    show (sortI a).length - _ < _
    omega
end Sym

/- The queue of debts: the reference, comparisons of lists. -/
namespace Sym
open Go

/-- The first is paid later than the second. -/
def gtP (y x : Post) : Prop := (Post.since x).val < (Post.since y).val ∨ ((Post.since y).val = (Post.since x).val ∧ (Post.addr x).val < (Post.addr y).val)

/-- A new one among those that came ahead. -/
theorem insert_ord {r : List Item} {x : Item} {k : Nat} (hk : k ≤ r.length) (ho : r.Pairwise fun a b => lessI b a = false) (hat : ∀ y ∈ r, y.2.1.val < x.2.1.val)
    (h1 : ∀ q, k ≤ q → q < r.length → gtP (rdL dI r q).1 x.1) (h2 : k = 0 ∨ ¬ gtP (rdL dI r (k - 1)).1 x.1) :
    (r.take k ++ x :: r.drop k).Pairwise fun a b => lessI b a = false := by
  rw [List.pairwise_append]
  have hd : ∀ y ∈ r.drop k, lessI y x = false := by
    intro y hy
    obtain ⟨q, hq, e⟩ := List.getElem_of_mem hy
    rw [List.getElem_drop] at e
    rw [List.length_drop] at hq
    have := h1 (k + q) (by omega) (by omega)
    rw [rdL_eq dI r _ (by omega), e] at this
    refine lessO.asymm _ _ ((lessI_iff _ _).2 ?_)
    rcases this with h | ⟨h, h'⟩
    · exact .inl h
    · exact .inr ⟨h.symm, .inl h'⟩
  have ht : ∀ y ∈ r.take k, lessI x y = false := by
    intro y hy
    obtain ⟨q, hq, e⟩ := List.getElem_of_mem hy
    rw [List.length_take] at hq
    rw [List.getElem_take] at e
    have h2 := h2.resolve_left (by omega)
    have hlast : lessI x (rdL dI r (k - 1)) = false := by
      rw [lessI_not]
      have hm := hat _ (rdL_mem dI r (k - 1) (by omega))
      unfold gtP at h2
      omega
    rcases Nat.lt_or_ge q (k - 1) with hc | hc
    · have := List.pairwise_iff_getElem.1 ho q (k - 1) (by omega) (by omega) hc
      rw [e, ← rdL_eq dI r (k - 1) (by omega)] at this
      exact lessO.trans _ _ _ this hlast
    · have : q = k - 1 := by omega
      subst this
      rw [← e, ← rdL_eq dI r (k - 1) (by omega)]
      exact hlast
  refine ⟨ho.take, List.pairwise_cons.2 ⟨hd, ho.drop⟩, fun a ha b hb => ?_⟩
  rcases List.mem_cons.1 hb with rfl | hb
  · exact ht a ha
  · exact lessO.trans _ _ _ (ht a ha) (hd b hb)

abbrev pTy : Ty := .cons (.int .u64) (.cons (.arr 4 (.int .u64)) (.cons (.arr 4 (.int .u64)) (.cons (.arr 4 (.int .u64)) (.cons (.arr 4 (.int .u64)) (.cons (.int .u64) .nil)))))
theorem eqbP (p : Post) : Ty.eqb pTy p p = true := eqb_self' (t := pTy) rfl p
theorem eqbP_iff (p q : Post) : Ty.eqb pTy p q = true ↔ p = q := eqb_iff pTy rfl p q

theorem i6_eqV {n : Nat} (h : n < 9223372036854775808) : eqV (k := .i64) (l := .i64) (i6 n) (i6 n) = true := by simp [eqV]

/-- The reference sorts. -/
theorem Sorted_eq {a : List Post} (ha : a.length ≤ 1073741824) : pontageref17_Sorted ((a, ()), ()) = some (((sortI a).map (·.1), ()), ()) := by
  refine Wp.out (T := fun o => o = some (((sortI a).map (·.1), ()), ())) ?_
  unfold pontageref17_Sorted
  simp only [lenL_eq, i6_ofNat, of64_0, of64_1]
  refine Wp.iter (fun s => ∃ i r, s = ((a, (i6 i, ())), (r.map (·.1), ())) ∧ i ≤ a.length ∧ r.Perm (enum 0 (a.take i)) ∧ r.Pairwise fun x y => lessI y x = false) (fun s => a.length - s.1.2.1.val.toNat) ?_ ⟨0, [], rfl, by omega, by simp [enum], List.Pairwise.nil⟩ ?_
  · rintro s ⟨i, r, rfl, hi, hp, ho⟩
    simp only [i6_ltb (show i < 9223372036854775808 by omega) (show a.length < 9223372036854775808 by omega), i6_nat (show i < 9223372036854775808 by omega), i6_add (show i + 1 < 9223372036854775808 by omega), List.length_map]
    have hlen : r.length ≤ i := by
      rw [hp.length_eq]
      exact Nat.le_trans (enum_len _ _) (by rw [List.length_take]; omega)
    refine Wp.brn (fun hc => ?_) (fun hc => ?_)
    · have hc := of_decide_eq_true hc
      have ht := enum_take hc
      have bi : inB (i6 i) a.length = true := i6_inB (by omega) (by omega)
      have hm : a.length - (i6 (i + 1)).val.toNat < a.length - (i6 i).val.toNat := by rw [i6_val (by omega), i6_val (by omega)]; omega
      refine Wp.brnT bi ?_
      refine Wp.brn (fun hd => ?_) (fun hd => ?_)
      · rw [if_neg (by rw [show ow (rdL dP a i) = false from ow_f hd]; simp), List.append_nil] at ht
        exact Wp.again ⟨i + 1, r, rfl, by omega, by rw [ht]; exact hp, ho⟩ hm
      · rw [if_pos (show ow (rdL dP a i) = true from ow_t hd)] at ht
        have hat : ∀ y ∈ r, y.2.1.val < (i6 i).val := by
          intro y hy
          obtain ⟨q, hq, e, _⟩ := enum_mem _ _ _ (hp.mem_iff.1 hy)
          rw [List.length_take] at hq
          rw [e]
          show (i6 (0 + q)).val < _
          rw [i6_val (by omega), i6_val (by omega)]
          omega
        have hrm : ∀ q, q < r.length → rdL dP (r.map (·.1)) q = (rdL dI r q).1 := fun q hq => by
          rw [rdL_eq dP _ q (by simpa using hq), rdL_eq dI r q hq, List.getElem_map]
        refine Wp.jn (fun s => ∃ k, s = ((a, (i6 i, (i6 k, ()))), (r.map (·.1), ())) ∧ k ≤ r.length ∧ (∀ q, k ≤ q → q < r.length → gtP (rdL dI r q).1 (rdL dP a i)) ∧ (k = 0 ∨ ¬ gtP (rdL dI r (k - 1)).1 (rdL dP a i))) ?_ ?_
        · rintro s ⟨k, rfl, hk, g1, g2⟩
          simp only [i6_nat (show k < 9223372036854775808 by omega), i6_nat (show i < 9223372036854775808 by omega), List.length_map, subL_take]
          have bk : inB' (i6 k) r.length = true := i6_inB' hk (by omega)
          have esub : subL (r.map (·.1)) k (r.length - k) = (r.drop k).map (·.1) := by
            have := subL_drop (r.map (·.1)) k
            rw [List.length_map] at this
            rw [this, List.map_drop]
          refine Wp.brnT bk (Wp.brnT (i6_eqV (by omega)) (Wp.brnT bi (Wp.brnT bk ?_)))
          simp only [esub]
          refine Wp.brnT (fits_le (by show ([rdL dP a i] ++ (r.drop k).map (·.1)).length ≤ _; simp; omega)) (Wp.brnT (fits_le (by show ((r.map (·.1)).take k ++ ([rdL dP a i] ++ (r.drop k).map (·.1))).length ≤ _; simp; omega)) (Wp.brnF rfl ?_))
          simp only [i6_add (show i + 1 < 9223372036854775808 by omega)]
          refine Wp.again ⟨i + 1, r.take k ++ (rdL dP a i, (i6 i, ())) :: r.drop k, ?_, by omega, ?_, insert_ord hk ho hat g1 g2⟩ hm
          · simp [appL, List.map_take]
          · rw [ht]
            refine (List.perm_middle).trans ?_
            rw [List.take_append_drop]
            exact (List.Perm.cons _ hp).trans (List.perm_append_comm (l₁ := [_]))
        · intro j hj
          refine Wp.iter (fun s => ∃ k, s = ((a, (i6 i, (i6 k, ()))), (r.map (·.1), ())) ∧ k ≤ r.length ∧ (∀ q, k ≤ q → q < r.length → gtP (rdL dI r q).1 (rdL dP a i))) (fun s => s.1.2.2.1.val.toNat) ?_ ⟨r.length, rfl, by omega, fun q h1 h2 => by omega⟩ ?_
          · rintro s ⟨k, rfl, hk, g1⟩
            simp only [i6_ltb (show 0 < 9223372036854775808 by omega) (show k < 9223372036854775808 by omega), i6_nat (show i < 9223372036854775808 by omega), List.length_map]
            refine Wp.brn (fun hk0 => ?_) (fun hk0 => ?_)
            · have hk0 := of_decide_eq_true hk0
              simp only [i6_sub (show k < 9223372036854775808 by omega) (show 1 ≤ k by omega), i6_nat (show k - 1 < 9223372036854775808 by omega), hrm (k - 1) (by omega)]
              have bk : inB (i6 (k - 1)) r.length = true := i6_inB (by omega) (by omega)
              have again : gtP (rdL dI r (k - 1)).1 (rdL dP a i) → (∃ k', (((a, (i6 i, (i6 (k - 1), ()))), (r.map (·.1), ())) : (List Post × (I .i64 × (I .i64 × Unit))) × (List Post × Unit)) = ((a, (i6 i, (i6 k', ()))), (r.map (·.1), ())) ∧ k' ≤ r.length ∧ (∀ q, k' ≤ q → q < r.length → gtP (rdL dI r q).1 (rdL dP a i))) ∧ (i6 (k - 1)).val.toNat < (i6 k).val.toNat := by
                intro hg
                refine ⟨⟨k - 1, rfl, by omega, fun q h1 h2 => ?_⟩, by rw [i6_val (by omega), i6_val (by omega)]; omega⟩
                rcases (by omega : q = k - 1 ∨ k ≤ q) with rfl | h
                · exact hg
                · exact g1 q h h2
              have stop : ¬ gtP (rdL dI r (k - 1)).1 (rdL dP a i) → Wp _ (j ((a, (i6 i, (i6 k, ()))), (r.map (·.1), ()))) := fun hg => hj _ ⟨k, rfl, hk, g1, .inr hg⟩
              refine Wp.brnT bk (Wp.brnT bi ?_)
              refine Wp.brn (fun h1 => ?_) (fun h1 => ?_)
              · have h1 := iff_ltb.1 h1
                exact Wp.again (again (.inl h1)).1 (again (.inl h1)).2
              · have h1 := niff_ltb.1 h1
                refine Wp.brnT bk (Wp.brnT bi ?_)
                refine Wp.brn (fun h2 => ?_) (fun h2 => ?_)
                · have h2 := iff_eqb.1 h2
                  refine Wp.brnT bk (Wp.brnT bi ?_)
                  refine Wp.brn (fun h3 => ?_) (fun h3 => ?_)
                  · have h3 := iff_ltb.1 h3
                    exact Wp.again (again (.inr ⟨h2, h3⟩)).1 (again (.inr ⟨h2, h3⟩)).2
                  · have h3 := niff_ltb.1 h3
                    exact Wp.done (stop fun hg => by
                      rcases hg with hg | ⟨_, hg⟩
                      · exact absurd hg (by show ¬ _ < _; exact Int.not_lt.2 h1)
                      · exact absurd hg (Int.not_lt.2 h3))
                · have h2 := niff_eqb.1 h2
                  exact Wp.done (stop fun hg => by
                    rcases hg with hg | ⟨hg, _⟩
                    · exact absurd hg (Int.not_lt.2 h1)
                    · exact h2 hg)
            · have hk0 := of_decide_eq_false hk0
              exact Wp.done (hj _ ⟨k, rfl, hk, g1, .inl (by omega)⟩)
          · rw [K0_eq]
            show (i6 r.length).val.toNat < _
            rw [i6_val (by omega)]
            omega
    · have hc := of_decide_eq_false hc
      refine Wp.done ?_
      rw [List.take_of_length_le (by omega)] at hp
      rw [sortI_only ha hp ho]
      rfl
  · rw [K0_eq]
    show a.length - _ < _
    omega

theorem RefOrder_eq {a : List Post} (ha : a.length ≤ 1073741824) : pontageref17_Order ((a, ()), ()) = some (((sortI a).map (fun x => x.1.1), ()), ()) := by
  refine Wp.out (T := fun o => o = some (((sortI a).map (fun x => x.1.1), ()), ())) ?_
  unfold pontageref17_Order
  refine Wp.optF (Sorted_eq ha) ?_
  have hs := sortI_len a
  obtain ⟨l, hl⟩ : ∃ l, l = (sortI a).map (·.1) := ⟨_, rfl⟩
  have hll : l.length ≤ 1073741824 := by rw [hl, List.length_map]; omega
  rw [← hl, show (sortI a).map (fun x => x.1.1) = l.map (fun x => x.1) by rw [hl]; simp]
  simp only [lenL_eq, i6_ofNat, of64_0, of64_1]
  refine Wp.iter (fun s => ∃ i, s = ((l, (i6 i, ())), ((l.take i).map (fun x : Post => x.1), ())) ∧ i ≤ l.length) (fun s => l.length - s.1.2.1.val.toNat) ?_ ⟨0, rfl, by omega⟩ ?_
  · rintro s ⟨i, rfl, hi⟩
    simp only [i6_ltb (show i < 9223372036854775808 by omega) (show l.length < 9223372036854775808 by omega), i6_nat (show i < 9223372036854775808 by omega), i6_add (show i + 1 < 9223372036854775808 by omega)]
    refine Wp.brn (fun hc => ?_) (fun hc => ?_)
    · have hc := of_decide_eq_true hc
      refine Wp.brnT (i6_inB (by omega) (by omega)) (Wp.brnT (fits_le (by show ((l.take i).map (fun x : Post => x.1) ++ [_]).length ≤ _; simp; omega)) ?_)
      refine Wp.again ⟨i + 1, ?_, by omega⟩ (by show l.length - (i6 (i + 1)).val.toNat < l.length - (i6 i).val.toNat; rw [i6_val (by omega), i6_val (by omega)]; omega)
      rw [List.take_succ_eq_append_getElem hc, List.map_append, ← rdL_eq dP l i hc]
      rfl
    · have hc := of_decide_eq_false hc
      refine Wp.done ?_
      rw [List.take_of_length_le (by omega)]
      rfl
  · rw [K0_eq]
    show l.length - _ < _
    omega

/-- Equal lists are told equal. -/
theorem EqualAddresses_same (a : List (I .u64)) (ha : a.length ≤ 1073741824) : pontagelaw0_EqualAddresses ((a, (a, ())), ()) = some ((true, ()), ()) := by
  refine Wp.out (T := fun o => o = some ((true, ()), ())) ?_
  unfold pontagelaw0_EqualAddresses
  refine Wp.brnF (niff_neb.2 rfl) ?_
  simp only [lenL_eq, i6_ofNat, of64_0, of64_1]
  refine Wp.iter (fun s => ∃ i, s = ((a, (a, (i6 i, ()))), ()) ∧ i ≤ a.length) (fun s => a.length - s.1.2.2.1.val.toNat) ?_ ⟨0, rfl, by omega⟩ ?_
  · rintro s ⟨i, rfl, hi⟩
    simp only [i6_ltb (show i < 9223372036854775808 by omega) (show a.length < 9223372036854775808 by omega), i6_nat (show i < 9223372036854775808 by omega), i6_add (show i + 1 < 9223372036854775808 by omega)]
    refine Wp.brn (fun hc => ?_) (fun hc => Wp.done rfl)
    have hc := of_decide_eq_true hc
    have bi : inB (i6 i) a.length = true := i6_inB (by omega) (by omega)
    refine Wp.brnT bi (Wp.brnT bi (Wp.brnF (niff_neb.2 rfl) ?_))
    exact Wp.again ⟨i + 1, rfl, by omega⟩ (by show a.length - (i6 (i + 1)).val.toNat < a.length - (i6 i).val.toNat; rw [i6_val (by omega), i6_val (by omega)]; omega)
  · rw [K0_eq]
    show a.length - _ < _
    omega

theorem EqualPosters_same (a : List Post) (ha : a.length ≤ 1073741824) : pontagelaw0_EqualPosters ((a, (a, ())), ()) = some ((true, ()), ()) := by
  refine Wp.out (T := fun o => o = some ((true, ()), ())) ?_
  unfold pontagelaw0_EqualPosters
  refine Wp.brnF (niff_neb.2 rfl) ?_
  simp only [lenL_eq, i6_ofNat, of64_0, of64_1]
  refine Wp.iter (fun s => ∃ i, s = ((a, (a, (i6 i, ()))), ()) ∧ i ≤ a.length) (fun s => a.length - s.1.2.2.1.val.toNat) ?_ ⟨0, rfl, by omega⟩ ?_
  · rintro s ⟨i, rfl, hi⟩
    simp only [i6_ltb (show i < 9223372036854775808 by omega) (show a.length < 9223372036854775808 by omega), i6_nat (show i < 9223372036854775808 by omega), i6_add (show i + 1 < 9223372036854775808 by omega)]
    refine Wp.brn (fun hc => ?_) (fun hc => Wp.done rfl)
    have hc := of_decide_eq_true hc
    have bi : inB (i6 i) a.length = true := i6_inB (by omega) (by omega)
    refine Wp.brnT bi (Wp.brnT bi (Wp.brnF (congrArg bnot (eqbP _)) ?_))
    exact Wp.again ⟨i + 1, rfl, by omega⟩ (by show a.length - (i6 (i + 1)).val.toNat < a.length - (i6 i).val.toNat; rw [i6_val (by omega), i6_val (by omega)]; omega)
  · rw [K0_eq]
    show a.length - _ < _
    omega

theorem contains_in (a : List Post) (p : Post) (ha : a.length ≤ 1073741824) (hp : p ∈ a) : pontagelaw17_contains ((a, (p, ())), ()) = some ((true, ()), ()) := by
  refine Wp.out (T := fun o => o = some ((true, ()), ())) ?_
  unfold pontagelaw17_contains
  simp only [lenL_eq, i6_ofNat, of64_0, of64_1]
  obtain ⟨k, hk, ek⟩ := mem_rdL dP hp
  refine Wp.iter (fun s => ∃ i, s = ((a, (i6 i, ())), (p, ())) ∧ i ≤ k) (fun s => a.length - s.1.2.1.val.toNat) ?_ ⟨0, rfl, by omega⟩ ?_
  · rintro s ⟨i, rfl, hi⟩
    simp only [i6_ltb (show i < 9223372036854775808 by omega) (show a.length < 9223372036854775808 by omega), i6_nat (show i < 9223372036854775808 by omega), i6_add (show i + 1 < 9223372036854775808 by omega)]
    refine Wp.brnT (decide_eq_true (by omega)) ?_
    have bi : inB (i6 i) a.length = true := i6_inB (by omega) (by omega)
    refine Wp.brnT bi (Wp.brn (fun _ => Wp.done rfl) (fun he => ?_))
    refine Wp.again ⟨i + 1, rfl, ?_⟩ (by show a.length - (i6 (i + 1)).val.toNat < a.length - (i6 i).val.toNat; rw [i6_val (by omega), i6_val (by omega)]; omega)
    rcases Nat.lt_or_ge i k with h | h
    · exact h
    · have : i = k := by omega
      subst this
      rw [ek] at he
      exact absurd ((eqbP p).symm.trans he) (by decide)
  · rw [K0_eq]
    show a.length - _ < _
    omega
end Sym

/- The laws of the queue of debts. -/
namespace Sym
open Go

theorem Mod_ok (b : I .i64) : ∃ y, pontagelaw0_Mod ((b, (I.of .i64 6, ())), ()) = some y ∧ True := by
  refine Wp.out (T := fun o => ∃ y, o = some y ∧ True) ?_
  unfold pontagelaw0_Mod
  exact Wp.brnT (show I.nz (I.conv (k := .i64) .u64 (I.of .i64 6)) = true by decide) ⟨_, rfl, trivial⟩

theorem sortI_short {a : List Post} {r : List Item} (ha : a.length ≤ 1073741824) (hp : enum 0 a = r) (hr : r.Pairwise fun x y => lessI y x = false) : sortI a = r := (sortI_only ha (hp ▸ List.Perm.refl _) hr).symm

theorem awake17 : pontagelaw17_awake ((), ()) = some ((true, ()), ()) := by
  refine Wp.out (T := fun o => o = some ((true, ()), ())) ?_
  unfold pontagelaw17_awake
  obtain ⟨p1, h1⟩ : ∃ p : Post, p = (((I.of .u64 5), (((I.of .u64 1), ((I.of .u64 0), ((I.of .u64 0), ((I.of .u64 0), ())))), (Z_U, (Z_U, (Z_U, ((I.of .u64 3), ()))))))) := ⟨_, rfl⟩
  obtain ⟨p2, h2⟩ : ∃ p : Post, p = (((I.of .u64 6), (((I.of .u64 1), ((I.of .u64 0), ((I.of .u64 0), ((I.of .u64 0), ())))), (Z_U, (Z_U, (Z_U, ((I.of .u64 2), ()))))))) := ⟨_, rfl⟩
  obtain ⟨p3, h3⟩ : ∃ p : Post, p = (((I.of .u64 7), (Z_U, (Z_U, (Z_U, (Z_U, ((I.of .u64 0), ()))))))) := ⟨_, rfl⟩
  have o1 : ow p1 = true := by rw [h1]; rfl
  have o2 : ow p2 = true := by rw [h2]; rfl
  have o3 : ow p3 = false := by rw [h3]; rfl
  have l12 : lessI (p1, (i6 0, ())) (p2, (i6 1, ())) = false := by rw [h1, h2]; rfl
  have e : sortI [p1, p2, p3] = [(p2, (i6 1, ())), (p1, (i6 0, ()))] := by
    refine (sortI_only (by simp) ?_ ?_).symm
    · simp only [enum, o1, o2, o3, if_true, Bool.false_eq_true, if_false, List.append_nil, List.singleton_append]
      exact List.Perm.swap _ _ _
    · refine List.pairwise_cons.2 ⟨fun y hy => ?_, List.pairwise_singleton ..⟩
      rw [List.mem_singleton.1 hy]
      exact l12
  have ho := Order_eq (a := [p1, p2, p3]) (by simp)
  rw [e] at ho
  rw [h1, h2, h3] at ho
  refine Wp.optF ho ?_
  exact rfl

theorem collide_ok (l : List Post) (how : I .i64) (hl : l.length ≤ 1073741824) : ∃ y, pontagelaw17_collide ((l, (how, ())), ()) = some y ∧ ∃ x : List Post, y = ((x, ()), ()) ∧ x.length = l.length := by
  refine Wp.out (T := fun o => ∃ y, o = some y ∧ ∃ x : List Post, y = ((x, ()), ()) ∧ x.length = l.length) ?_
  unfold pontagelaw17_collide
  refine Wp.brnT (fits_le (by show ([] ++ l).length ≤ _; simpa using hl)) ?_
  simp only [lenL_eq, i6_ofNat, of64_0, of64_1]
  refine Wp.iter (fun s => ∃ i out, s = ((how, (i6 i, ())), (out, ())) ∧ i ≤ l.length ∧ out.length = l.length) (fun s => l.length - s.1.2.1.val.toNat) ?_ ⟨0, [] ++ l, rfl, by omega, by simp⟩ ?_
  · rintro s ⟨i, out, rfl, hi, ho⟩
    simp only [ho, i6_ltb (show i < 9223372036854775808 by omega) (show l.length < 9223372036854775808 by omega), i6_nat (show i < 9223372036854775808 by omega), i6_add (show i + 1 < 9223372036854775808 by omega)]
    refine Wp.brn (fun hc => ?_) (fun hc => ?_)
    · have hc := of_decide_eq_true hc
      have bi : inB (i6 i) l.length = true := i6_inB (by omega) (by omega)
      have hm : l.length - (i6 (i + 1)).val.toNat < l.length - (i6 i).val.toNat := by rw [i6_val (by omega), i6_val (by omega)]; omega
      have hset : ∀ (m : List Post) (k : Nat) (v : Post), m.length = l.length → (setL m k v).length = l.length := fun m k v h => by rw [setL, setAt_eq, List.length_set]; exact h
      refine Wp.jn (fun s => ∃ out, s = ((how, (i6 i, ())), (out, ())) ∧ out.length = l.length) ?_ ?_
      · rintro s ⟨out, rfl, ho⟩
        simp only [ho, i6_nat (show i < 9223372036854775808 by omega), i6_add (show i + 1 < 9223372036854775808 by omega)]
        refine Wp.brn (fun _ => Wp.brn (fun _ => Wp.brnT bi (Wp.again ⟨i + 1, _, rfl, by omega, hset _ _ _ ho⟩ hm)) (fun _ => Wp.again ⟨i + 1, out, rfl, by omega, ho⟩ hm)) (fun _ => Wp.again ⟨i + 1, out, rfl, by omega, ho⟩ hm)
      · intro j hj
        refine Wp.brn (fun _ => ?_) (fun _ => hj _ ⟨out, rfl, ho⟩)
        refine Wp.brnT bi (Wp.brnT bi (Wp.brnT (by rw [hset _ _ _ ho]; exact bi) (Wp.brnT (by rw [hset _ _ _ ho]; exact bi) (hj _ ⟨_, rfl, hset _ _ _ (hset _ _ _ ho)⟩))))
    · exact Wp.done ⟨_, rfl, out, rfl, ho⟩
  · rw [K0_eq]
    show l.length - _ < _
    omega

theorem few60 {l : List Post} (h : l.length ≤ LIM) (hc : I.ltb (I.of .i64 60) (I.ofNat .i64 (lenL l)) = false) : l.length ≤ 60 := by
  have h : l.length ≤ 140737488355328 := h
  have := niff_ltb.1 hc
  rw [show (I.of .i64 60).val = 60 from rfl, lenL_eq, i6_ofNat, i6_val (by omega)] at this
  omega

theorem QOf.drop {h r : List Item} {i : Nat} (q : QOf h (r.drop i).tail) : QOf h (r.drop (i + 1)) := by rwa [List.tail_drop] at q

/-- Peek, Pop, Len and Order agree with the reference. -/
theorem order_law (l : List Post) (how : I .i64) (hl : l.length ≤ LIM) : pontagelaw17_DebtQueueOrder ((l, (how, ())), ()) = some ((true, ()), ()) := by
  refine Wp.out (T := fun o => o = some ((true, ()), ())) ?_
  unfold pontagelaw17_DebtQueueOrder
  refine Wp.brn (fun _ => Wp.optF awake17 rfl) (fun hc => ?_)
  have hl := few60 hl hc
  refine Wp.call (Mod_ok how) ?_
  rintro m -
  refine Wp.call (collide_ok l m.1.1 (by omega)) ?_
  rintro _ ⟨x, rfl, hx⟩
  have hx' : x.length ≤ 1073741824 := by omega
  refine Wp.call (New_ok (a := x) hx') ?_
  rintro _ ⟨h0, rfl, q0⟩
  refine Wp.optF (Sorted_eq (a := x) hx') ?_
  have hs := sortI_len x
  obtain ⟨r, hr⟩ : ∃ r, r = sortI x := ⟨_, rfl⟩
  rw [← hr] at hs q0 ⊢
  have hwl : (r.map (·.1)).length = r.length := List.length_map _
  have hrd : ∀ i, i < r.length → rdL dP (r.map (·.1)) i = hdP (r.drop i) := by
    intro i hi
    rw [rdL_eq dP _ i (by rw [hwl]; exact hi), List.getElem_map, List.drop_eq_getElem_cons hi]
    rfl
  refine Wp.jn (fun s => s = ((r.map (·.1), ()), (((), ()), (h0, ())))) ?_ ?_
  · rintro s rfl
    simp only [lenL_eq, i6_ofNat, of64_0, of64_1, hwl]
    refine Wp.iter (fun s => ∃ i h, s = ((r.map (·.1), (i6 i, ())), (((), ()), (h, ()))) ∧ i ≤ r.length ∧ QOf h (r.drop i)) (fun s => r.length - s.1.2.1.val.toNat) ?_ ⟨0, h0, rfl, by omega, q0⟩ ?_
    · rintro s ⟨i, h, rfl, hi, q⟩
      simp only [hwl, i6_ltb (show i < 9223372036854775808 by omega) (show r.length < 9223372036854775808 by omega), i6_nat (show i < 9223372036854775808 by omega), i6_add (show i + 1 < 9223372036854775808 by omega)]
      refine Wp.brn (fun hc => ?_) (fun hc => ?_)
      · have hc := of_decide_eq_true hc
        have hne : (r.drop i).isEmpty = false := by rw [List.drop_eq_getElem_cons hc]; rfl
        have bi : inB (i6 i) r.length = true := i6_inB (by omega) (by omega)
        refine Wp.optF (Peek_any q (by rw [List.length_drop]; omega)) ?_
        refine Wp.call (Pop_any q (by rw [List.length_drop]; omega)) ?_
        rintro _ ⟨h', rfl, q'⟩
        have q' : QOf h' (r.drop (i + 1)) := QOf.drop q'
        have he : bnot (Ty.eqb pTy (hdP (r.drop i)) (rdL dP (r.map (·.1)) i)) = false := congrArg bnot ((eqbP_iff _ _).2 (hrd i hc).symm)
        refine Wp.brnF (by rw [hne]; rfl) (Wp.brnF (by rw [hne]; rfl) (Wp.brnT bi (Wp.brnF he (Wp.brnT bi (Wp.brnF he ?_)))))
        · refine Wp.optF (QLen_eq h') ?_
          have hh : @List.length Item h' = r.length - 1 - i := q'.len.trans (by rw [List.length_drop]; omega)
          refine Wp.brnF ?_ ?_
          · simp only [i6_sub (show r.length < 9223372036854775808 by omega) (show 1 ≤ r.length by omega), i6_sub (show r.length - 1 < 9223372036854775808 by omega) (show i ≤ r.length - 1 by omega)]
            exact niff_neb.2 (congrArg (fun n => (i6 n).val) hh)
          · exact Wp.again ⟨i + 1, h', rfl, by omega, q'⟩ (by show r.length - (i6 (i + 1)).val.toNat < r.length - (i6 i).val.toNat; rw [i6_val (by omega), i6_val (by omega)]; omega)
      · have hc := of_decide_eq_false hc
        have hd : r.drop i = [] := List.drop_eq_nil_iff.2 (by omega)
        rw [hd] at q
        have := q.nil
        subst this
        refine Wp.done (Wp.optF Peek_nil (Wp.optF Pop_nil (Wp.brnT rfl (Wp.brnT rfl (Wp.brnT (eqbP _) (Wp.brnT (eqbP _) (Wp.optF (QLen_eq []) (Wp.brnT rfl (Wp.optF awake17 ?_)))))))))
        rfl
    · rw [K0_eq]
      show r.length - _ < _
      omega
  · intro j hj
    refine Wp.optF (QLen_eq h0) ?_
    refine Wp.brnF ?_ ?_
    · rw [q0.len]
      exact niff_neb.2 (by rw [lenL_eq, hwl]; rfl)
    · refine Wp.optF (Order_eq hx') (Wp.optF (RefOrder_eq hx') ?_)
      refine Wp.optF (EqualAddresses_same _ (by rw [List.length_map, ← hr]; omega)) ?_
      exact Wp.brnF rfl (hj _ rfl)
end Sym

/- The laws of the queue of debts: complete, empty, any order of the list. -/
namespace Sym
open Go

theorem sortI_mem {a : List Post} {x : Item} (h : x ∈ sortI a) : x.1 ∈ a ∧ ow x.1 = true := by
  obtain ⟨i, hi, e, ho⟩ := enum_mem _ _ _ ((sortI_perm a).mem_iff.1 h)
  exact ⟨by rw [e]; exact rdL_mem dP a i hi, ho⟩

/-- Each entry with a debt is popped once, the oldest debt first. -/
theorem complete_law (l : List Post) (how : I .i64) (hl : l.length ≤ LIM) : pontagelaw17_DebtQueueComplete ((l, (how, ())), ()) = some ((true, ()), ()) := by
  refine Wp.out (T := fun o => o = some ((true, ()), ())) ?_
  unfold pontagelaw17_DebtQueueComplete
  refine Wp.brn (fun _ => Wp.optF awake17 rfl) (fun hc => ?_)
  have hl := few60 hl hc
  refine Wp.call (Mod_ok how) ?_
  rintro m -
  refine Wp.call (collide_ok l m.1.1 (by omega)) ?_
  rintro _ ⟨x, rfl, hx⟩
  have hx' : x.length ≤ 1073741824 := by omega
  refine Wp.brnT (fits_le (by show x.length ≤ _; omega)) ?_
  refine Wp.call (New_ok (a := x) hx') ?_
  rintro _ ⟨h0, rfl, q0⟩
  have hs := sortI_len x
  have hmem : ∀ z ∈ sortI x, z.1 ∈ x ∧ ow z.1 = true := fun z => sortI_mem
  have hord := sortI_ord x
  obtain ⟨r, hr⟩ : ∃ r, r = sortI x := ⟨_, rfl⟩
  rw [← hr] at hs q0 hmem hord
  have hrl : (enum 0 x).length = r.length := by rw [hr]; exact (sortI_perm x).length_eq.symm
  have q0 : QOf h0 r := q0
  simp only [lenL_eq, i6_ofNat, of64_0, of64_1]
  refine Wp.iter (fun s => ∃ i, s = ((x, (i6 (enum 0 (x.take i)).length, (i6 i, ()))), (x, (((), ()), (h0, ())))) ∧ i ≤ x.length) (fun s => x.length - s.1.2.2.1.val.toNat) ?_ ⟨0, rfl, by omega⟩ ?_
  · rintro s ⟨i, rfl, hi⟩
    have hn : (enum 0 (x.take i)).length ≤ i := Nat.le_trans (enum_len _ _) (by rw [List.length_take]; omega)
    simp only [i6_ltb (show i < 9223372036854775808 by omega) (show x.length < 9223372036854775808 by omega), i6_nat (show i < 9223372036854775808 by omega), i6_add (show i + 1 < 9223372036854775808 by omega), i6_add (show (enum 0 (x.take i)).length + 1 < 9223372036854775808 by omega)]
    refine Wp.brn (fun hc => ?_) (fun hc => ?_)
    · have hc := of_decide_eq_true hc
      have ht := enum_take hc
      have hm : x.length - (i6 (i + 1)).val.toNat < x.length - (i6 i).val.toNat := by rw [i6_val (by omega), i6_val (by omega)]; omega
      refine Wp.brnT (i6_inB (by omega) (by omega)) ?_
      refine Wp.brn (fun ho => ?_) (fun ho => ?_)
      · rw [if_pos (show ow (rdL dP x i) = true from ho)] at ht
        exact Wp.again ⟨i + 1, by rw [ht, List.length_append]; rfl, by omega⟩ hm
      · rw [if_neg (by rw [show ow (rdL dP x i) = false from ho]; simp), List.append_nil] at ht
        exact Wp.again ⟨i + 1, by rw [ht]; rfl, by omega⟩ hm
    · have hc := of_decide_eq_false hc
      rw [List.take_of_length_le (by omega), hrl]
      refine Wp.done (Wp.optF (QLen_eq h0) (Wp.brnF (niff_neb.2 (congrArg (fun n => (i6 n).val) q0.len)) ?_))
      refine Wp.iter (fun s => ∃ i h last, s = ((x, (i6 r.length, (i6 i, ()))), (x, (((), ()), (h, (last, ()))))) ∧ i ≤ r.length ∧ QOf h (r.drop i) ∧ (0 < i → last = (rdL dI r (i - 1)).1)) (fun s => r.length - s.1.2.2.1.val.toNat) ?_ ⟨0, h0, dP, rfl, by omega, q0, fun h => by omega⟩ ?_
      · rintro s ⟨i, h, last, rfl, hi, q, hlast⟩
        simp only [i6_ltb (show i < 9223372036854775808 by omega) (show r.length < 9223372036854775808 by omega), i6_ltb (show 0 < 9223372036854775808 by omega) (show i < 9223372036854775808 by omega), i6_nat (show i < 9223372036854775808 by omega), i6_add (show i + 1 < 9223372036854775808 by omega)]
        refine Wp.brn (fun hc => ?_) (fun hc => ?_)
        · have hc := of_decide_eq_true hc
          have hd : r.drop i = rdL dI r i :: r.drop (i + 1) := by rw [rdL_eq dI r i hc]; exact List.drop_eq_getElem_cons hc
          rw [hd] at q
          refine Wp.call (Pop_any q (by rw [← hd, List.length_drop]; omega)) ?_
          rintro _ ⟨h', rfl, q'⟩
          have ⟨hin, how⟩ := hmem _ (rdL_mem dI r i hc)
          have hm : r.length - (i6 (i + 1)).val.toNat < r.length - (i6 i).val.toNat := by rw [i6_val (by omega), i6_val (by omega)]; omega
          have last : Wp (Rnd (fun o => o = some ((true, ()), ())) (fun s => ∃ i h last, s = ((x, (i6 r.length, (i6 i, ()))), (x, (((), ()), (h, (last, ()))))) ∧ i ≤ r.length ∧ QOf h (r.drop i) ∧ (0 < i → last = (rdL dI r (i - 1)).1)) (fun s => r.length - s.1.2.2.1.val.toNat) (r.length - (i6 i).val.toNat))
              (.again ((x, (i6 r.length, (i6 (i + 1), ()))), (x, (((), ()), (h', ((rdL dI r i).1, ()))))) : Stp ((List Post × (I .i64 × (I .i64 × Unit))) × (List Post × ((Unit × Unit) × (List Item × (Post × Unit))))) _) := Wp.again ⟨i + 1, h', _, rfl, by omega, q', fun _ => rfl⟩ hm
          refine Wp.brnF rfl (Wp.brnF (by unfold ow at how; revert how; show bnot (Ty.eqb (.arr 4 (.int .u64)) (rdL dI r i).1.2.1 Z_U) = true → Ty.eqb (.arr 4 (.int .u64)) (rdL dI r i).1.2.1 Z_U = false; cases Ty.eqb (.arr 4 (.int .u64)) (rdL dI r i).1.2.1 Z_U <;> simp [bnot]) ?_)
          refine Wp.brn (fun h0 => ?_) (fun h0 => ?_)
          · have h0 := of_decide_eq_true h0
            have hl' := hlast h0
            subst hl'
            have hle := List.pairwise_iff_getElem.1 hord (i - 1) i (by omega) hc (by omega)
            rw [← rdL_eq dI r (i - 1) (by omega), ← rdL_eq dI r i hc, lessI_not] at hle
            refine Wp.brnF (niff_ltb.2 (by show (Post.since (rdL dI r (i - 1)).1).val ≤ (Post.since (rdL dI r i).1).val; omega)) ?_
            refine Wp.brn (fun he => ?_) (fun he => ?_)
            · have he : (Post.since (rdL dI r i).1).val = (Post.since (rdL dI r (i - 1)).1).val := iff_eqb.1 he
              refine Wp.brnF (niff_ltb.2 (by show (Post.addr (rdL dI r (i - 1)).1).val ≤ (Post.addr (rdL dI r i).1).val; omega)) ?_
              exact Wp.optF (contains_in x _ hx' hin) (Wp.brnF rfl last)
            · exact Wp.optF (contains_in x _ hx' hin) (Wp.brnF rfl last)
          · exact Wp.optF (contains_in x _ hx' hin) (Wp.brnF rfl last)
        · have hc := of_decide_eq_false hc
          have hd : r.drop i = [] := List.drop_eq_nil_iff.2 (by omega)
          rw [hd] at q
          have := q.nil
          subst this
          refine Wp.done (Wp.optF Pop_nil (Wp.brnT rfl (Wp.optF (EqualPosters_same x hx') (Wp.brnT rfl (Wp.optF awake17 ?_)))))
          rfl
      · rw [K0_eq]
        show r.length - _ < _
        omega
  · rw [K0_eq]
    show x.length - _ < _
    omega

theorem sortI_nil : sortI [] = [] := (sortI_only (a := []) (by simp) (by simp [enum]) List.Pairwise.nil).symm

/-- A nil queue and a queue of entries without debt are empty. -/
theorem empty_law (a since : I .u64) : pontagelaw17_DebtQueueEmpty ((a, (since, ())), ()) = some ((true, ()), ()) := by
  refine Wp.out (T := fun o => o = some ((true, ()), ())) ?_
  unfold pontagelaw17_DebtQueueEmpty
  obtain ⟨p, hp⟩ : ∃ p : Post, p = (a, (Z_U, (Z_U, (Z_U, (Z_U, (since, ())))))) := ⟨_, rfl⟩
  have ho : ow p = false := by rw [hp]; rfl
  have e : sortI [p] = [] := (sortI_only (a := [p]) (by simp) (by simp [enum, ho]) List.Pairwise.nil).symm
  have hn := New_ok (a := [p]) (by simp)
  rw [e, hp] at hn
  refine Wp.call hn ?_
  rintro _ ⟨h, rfl, q⟩
  have := q.nil
  subst this
  refine Wp.brnT rfl (Wp.brnT rfl (Wp.optF (Order_eq (a := []) (by simp)) ?_))
  rw [sortI_nil]
  refine Wp.brnT rfl (Wp.optF awake17 ?_)
  rfl

theorem enum_fst : ∀ (l : List Post) (k : Nat), (enum k l).map (·.1) = l.filter ow
  | [], k => rfl
  | p :: l, k => by
    simp only [enum, List.map_append, enum_fst l (k + 1), List.filter_cons]
    split <;> simp

def leP (p q : Post) : Prop := (Post.since p).val < (Post.since q).val ∨ ((Post.since p).val = (Post.since q).val ∧ (Post.addr p).val ≤ (Post.addr q).val)

theorem sortI_fst (a : List Post) : ((sortI a).map (·.1)).Pairwise leP := by
  rw [List.pairwise_map]
  refine (sortI_ord a).imp fun {x y} h => ?_
  rw [lessI_not] at h
  unfold leP
  omega
theorem sortI_filter (a : List Post) : ((sortI a).map (·.1)).Perm (a.filter ow) := by
  rw [← enum_fst a 0]
  exact (sortI_perm a).map _

/-- Where every address occurs once, the order does not depend on the list's. -/
theorem sortI_same {a b : List Post} (hp : a.Perm b) (hu : ∀ p ∈ a, ∀ q ∈ a, (Post.addr p).val = (Post.addr q).val → p = q) : (sortI a).map (·.1) = (sortI b).map (·.1) := by
  refine List.Perm.eq_of_pairwise (le := leP) (fun p q h1 h2 l1 l2 => ?_) (sortI_fst a) (sortI_fst b) ((sortI_filter a).trans ((hp.filter _).trans (sortI_filter b).symm))
  have m1 : p ∈ a := (List.mem_filter.1 ((sortI_filter a).mem_iff.1 h1)).1
  have m2 : q ∈ a := hp.mem_iff.2 (List.mem_filter.1 ((sortI_filter b).mem_iff.1 h2)).1
  refine hu p m1 q m2 ?_
  unfold leP at l1 l2
  omega

theorem conv_i6 {n : Nat} (h : n < 9223372036854775808) : (I.conv (k := .i64) .u64 (i6 n)).val = n := by
  have : (I.conv (k := .i64) .u64 (i6 n)).val = (I.of .u64 (i6 n).val).val := rfl
  rw [this, i6_val h]
  exact of_u64 ⟨by omega, by omega⟩

/-- The reversed list has the same order. -/
theorem permutation_law (l : List Post) (hl : l.length ≤ LIM) : pontagelaw17_DebtqueuePermutation ((l, ()), ()) = some ((true, ()), ()) := by
  refine Wp.out (T := fun o => o = some ((true, ()), ())) ?_
  unfold pontagelaw17_DebtqueuePermutation
  refine Wp.brn (fun _ => Wp.optF awake17 rfl) (fun hc => ?_)
  have hl := few60 hl hc
  simp only [lenL_eq, i6_ofNat, of64_0, of64_1]
  refine Wp.iter (fun s => ∃ i x, s = ((l, (i6 i, ())), (x, ([], ()))) ∧ i ≤ l.length ∧ x.length = i ∧ ∀ k, k < i → (Post.addr (rdL dP x k)).val = k + 1) (fun s => l.length - s.1.2.1.val.toNat) ?_ ⟨0, [], rfl, by omega, rfl, fun k hk => by omega⟩ ?_
  · rintro s ⟨i, x, rfl, hi, hx, ha⟩
    simp only [i6_ltb (show i < 9223372036854775808 by omega) (show l.length < 9223372036854775808 by omega), i6_nat (show i < 9223372036854775808 by omega), i6_add (show i + 1 < 9223372036854775808 by omega)]
    refine Wp.brn (fun hc => ?_) (fun hc => ?_)
    · have hc := of_decide_eq_true hc
      refine Wp.brnT (i6_inB (by omega) (by omega)) (Wp.brnT (fits_le (by show (x ++ [_]).length ≤ _; simp; omega)) ?_)
      refine Wp.again ⟨i + 1, x ++ [_], rfl, by omega, by simp [hx], fun k hk => ?_⟩ (by show l.length - (i6 (i + 1)).val.toNat < l.length - (i6 i).val.toNat; rw [i6_val (by omega), i6_val (by omega)]; omega)
      rw [rdL_app, hx]
      by_cases hk2 : k < i
      · rw [if_pos hk2]; exact ha k hk2
      · have : k = i := by omega
        subst this
        rw [if_neg hk2, Nat.sub_self]
        show (I.conv (k := .i64) .u64 (i6 (k + 1))).val = _
        rw [conv_i6 (by omega)]
        omega
    · have hc := of_decide_eq_false hc
      have hxl : x.length ≤ 60 := by omega
      refine Wp.done ?_
      refine Wp.iter (fun s => ∃ j, s = ((I.sub (i6 j) (i6 1), ()), (x, ((x.drop j).reverse, ()))) ∧ j ≤ x.length) (fun s => (s.1.1.val + 1).toNat) ?_ ⟨x.length, by rw [List.drop_length]; rfl, by omega⟩ ?_
      · rintro s ⟨j, rfl, hj⟩
        have hjv : (I.sub (i6 j) (i6 1)).val = (j : Int) - 1 := by
          rw [sub_i64 (by rw [i6_val (by omega), i6_val (by omega)]; omega), i6_val (by omega), i6_val (by omega)]
          rfl
        refine Wp.brn (fun hc => ?_) (fun hc => ?_)
        · have hc := iff_leb.1 hc
          rw [hjv, i6_val (by omega)] at hc
          have hj1 : 1 ≤ j := by omega
          simp only [i6_sub (show j < 9223372036854775808 by omega) hj1, i6_nat (show j - 1 < 9223372036854775808 by omega)]
          refine Wp.brnT (i6_inB (by omega) (by omega)) (Wp.brnT (fits_le (by show ((x.drop j).reverse ++ [_]).length ≤ _; simp; omega)) ?_)
          have hm : (I.sub (i6 (j - 1)) (i6 1)).val = (j : Int) - 2 := by
            rw [sub_i64 (by rw [i6_val (by omega), i6_val (by omega)]; omega), i6_val (by omega), i6_val (by omega)]
            omega
          refine Wp.again ⟨j - 1, ?_, by omega⟩ (by show ((I.sub (i6 (j - 1)) (i6 1)).val + 1).toNat < ((i6 (j - 1)).val + 1).toNat; rw [hm, i6_val (by omega)]; omega)
          have : x.drop (j - 1) = rdL dP x (j - 1) :: x.drop j := by
            rw [rdL_eq dP x (j - 1) (by omega), List.drop_eq_getElem_cons (by omega), show j - 1 + 1 = j by omega]
          rw [this, List.reverse_cons]
        · have hc := niff_leb.1 hc
          rw [hjv, i6_val (by omega)] at hc
          have : j = 0 := by omega
          subst this
          have hsame := sortI_same (a := x) (b := x.reverse) (List.reverse_perm x).symm (by
            intro p hp q hq he
            obtain ⟨i1, h1, rfl⟩ := mem_rdL dP hp
            obtain ⟨i2, h2, rfl⟩ := mem_rdL dP hq
            rw [ha i1 (by omega), ha i2 (by omega)] at he
            rw [show i1 = i2 by omega])
          have e : (sortI x.reverse).map (fun z => z.1.1) = (sortI x).map (fun z => z.1.1) := by
            have := congrArg (List.map (fun p : Post => p.1)) hsame
            rw [List.map_map, List.map_map] at this
            exact this.symm
          have o1 := Order_eq (a := x) (by omega)
          have o2 := Order_eq (a := x.reverse) (by rw [List.length_reverse]; omega)
          rw [e] at o2
          have hs := sortI_len x
          refine Wp.done (Wp.optF o1 (Wp.optF o2 (Wp.optF (EqualAddresses_same _ (by rw [List.length_map]; omega)) (Wp.brnT rfl (Wp.optF awake17 ?_)))))
          rfl
      · rw [K0_eq]
        show ((I.sub (i6 x.length) (i6 1)).val + 1).toNat < _
        rw [sub_i64 (by rw [i6_val (by omega), i6_val (by omega)]; omega), i6_val (by omega), i6_val (by omega)]
        omega
  · rw [K0_eq]
    show l.length - _ < _
    omega
end Sym
