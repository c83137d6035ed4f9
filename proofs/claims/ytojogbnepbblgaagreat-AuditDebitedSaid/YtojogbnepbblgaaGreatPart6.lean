/- The contracts of the given functions. -/
import Derived.Test.YtojogbnepbblgaaGreatProg
import Derived.Carry
import Derived.SizedLaws
import Derived.ChangeOld
import Derived.OpenShut
import Derived.Test.YtojogbnepbblgaaGreatPart5
import Derived.Test.YtojogbnepbblgaaGreatPart3
import Derived.Test.YtojogbnepbblgaaGreatPart4
namespace Sym
open Go Go.Proofs
set_option maxRecDepth 100000
def tys : List (Nat × Ty) := [(2, (.int .i64)), (3, (.int .i64)), (4, .bool), (5, (.int .u8)), (6, (.int .u8)), (7, Y_runtime_boundsError), (8, Y_runtime_boundsError), (9, .str), (10, .str), (11, .str), (22, (.sl Y_api_Step)), (23, (.sl Y_api_Receipt)), (24, (.sl (.int .i64))), (25, (.int .u64)), (27, u256), (29, (.int .i64)), (31, Y_api_Charge), (32, (.sl Y_api_Message)), (34, Y_api_Receipt), (35, .opq), (40, Y_api_Totals), (45, Y_api_Params), (47, Y_api_Block), (49, Y_api_Int256), (50, (.sl Y_api_Poster)), (52, Y_api_Pricer), (53, (.sl Y_api_Account)), (54, (.arr 4 u256)), (55, (.sl .bool)), (56, (.sl Y_api_Payment)), (58, Y_api_State), (60, (.int .u64)), (62, Y_api_Message), (64, Y_api_Poster), (68, (.sl (.int .u8))), (70, Y_api_Transaction), (72, Y_api_Message), (73, (.sl (.arr 32 (.int .u8)))), (75, Y_api_Claim), (77, Y_api_Step), (78, (.arr 5 (.int .u64))), (86, (.int .u64)), (88, (.cons .bool .nil)), (90, .opq), (91, .opq), (92, (.sl (.int .i64))), (93, (.arr 8 (.sl (.int .i64)))), (95, Y_pontageref31_adding), (98, .opq), (99, .opq), (101, Y_pontageref28_Machine), (104, Y_pontageref11_Ledger), (105, (.sl (.int .u64))), (107, Y_pontageref25_Escrow), (110, (.arr 5 (.int .u64))), (121, (.sl u256)), (123, .opq), (140, .opq), (143, Y_api_Account), (146, Y_api_Payment), (165, Y_pontageref21_Outcome), (178, (.arr 12 (.int .u64))), (184, (.arr 32 (.int .u8))), (187, (.arr 6 (.int .u64))), (219, (.arr 12 u256)), (237, .opq), (243, Y_pontageref3_SignedBig), (261, (.arr 12 .bool)), (267, (.int .u32)), (268, (.arr 8 (.int .u32))), (272, (.arr 64 (.int .u32)))]
def eqs : List (Nat × Ty) := [(2, (.int .i64)), (3, (.int .i64)), (4, .bool), (5, (.int .u8)), (6, (.int .u8)), (7, Y_runtime_boundsError), (8, Y_runtime_boundsError), (25, (.int .u64)), (27, u256), (29, (.int .i64)), (31, Y_api_Charge), (35, .opq), (40, Y_api_Totals), (45, Y_api_Params), (47, Y_api_Block), (49, Y_api_Int256), (54, (.arr 4 u256)), (60, (.int .u64)), (62, Y_api_Message), (64, Y_api_Poster), (72, Y_api_Message), (78, (.arr 5 (.int .u64))), (86, (.int .u64)), (88, (.cons .bool .nil)), (90, .opq), (91, .opq), (98, .opq), (99, .opq), (110, (.arr 5 (.int .u64))), (123, .opq), (140, .opq), (143, Y_api_Account), (146, Y_api_Payment), (178, (.arr 12 (.int .u64))), (184, (.arr 32 (.int .u8))), (187, (.arr 6 (.int .u64))), (219, (.arr 12 u256)), (237, .opq), (261, (.arr 12 .bool)), (267, (.int .u32)), (268, (.arr 8 (.int .u32))), (272, (.arr 64 (.int .u32)))]
theorem tysOk : tys.all (fun x => tiB Tryz.prog x.1 x.2) = true := by kernel_rfl
theorem eqsOk : eqs.all (fun x => eqiB Tryz.prog x.1 x.2) = true := by kernel_rfl
theorem follows : Tryz.prog.follows .mixedOrders = true := by kernel_rfl
theorem noOddP : noOdd Tryz.prog := noOdd_of (by kernel_rfl)
def owns : List Nat := [34, 58, 101, 104, 107]
def meths : List (Nat × String × FuncId × Option Nat) := []
theorem methsOk : meths.all (fun x => methB Tryz.prog x.1 x.2.1 x.2.2.1 x.2.2.2) = true := by kernel_rfl
theorem mkOk {C : Con} {n k : Nat} {hs : List (Nat × How)} {A : Anns} (h : HowsOk Tryz.prog hs) (e : ∀ x, evalFn (mkEnv Tryz.prog tys eqs hs owns meths) A n C.In C.Out k K0 x = C.F x) (hko : keepOut C.In.heap C.Out.heap = true := by rfl) : ConOk Tryz.prog n C := con_of_ev (E := mkEnv Tryz.prog tys eqs hs owns meths) (envOk tysOk eqsOk h follows methsOk) noOddP (fun x _ h => ⟨A, k, K0, (e x).trans h⟩) hko
theorem mkFresh {C : Con} {n k : Nat} {hs : List (Nat × How)} {A : Anns} (h : HowsOk Tryz.prog hs) (e : ∀ x, evalFresh (mkEnv Tryz.prog tys eqs hs owns meths) A n C.In C.Out k K0 x = C.F x) : ConFresh Tryz.prog n C := fresh_of_ev (E := mkEnv Tryz.prog tys eqs hs owns meths) (envOk tysOk eqsOk h follows methsOk) noOddP fun x _ h => ⟨A, k, K0, (e x).trans h⟩
noncomputable def pontageref12_GenesisC : Con := ⟨⟨[], []⟩, ⟨[.pl Y_api_Params], []⟩, pontageref12_Genesis K0⟩
theorem ok41 : ConOk Tryz.prog 41 pontageref12_GenesisC := mkOk (n := 41) (k := 60) (hs := []) (A := fun _ _ => none) trivial (by intro x; kernel_rfl)
noncomputable def pontageref1_ToUint256C : Con := ⟨⟨[.pl (.sl (.int .i64))], []⟩, ⟨[.pl u256], []⟩, pontageref1_ToUint256 K0⟩
theorem ok24 : ConOk Tryz.prog 24 pontageref1_ToUint256C := mkOk (n := 24) (k := 60) (hs := []) (A := annL [([1000000, 24], 6, .join ⟨(.pl (.sl (.int .i64)) :: dd 1 (.ptr 0 [] :: .ptr 1 [] :: .pl (.int .i64) :: dd 5 (.pl (.int .i64) :: .pl .bool :: dd 22 []))), [.box u256 (.pl u256), .box u256 (.pl u256)]⟩), ([24], 0, .tmpl ⟨(.pl (.sl (.int .i64)) :: dd 1 (.ptr 0 [] :: .ptr 1 [] :: .pl (.int .i64) :: dd 29 [])), [.box u256 (.pl u256), .box u256 (.pl u256)]⟩)]) trivial (by intro x; kernel_rfl)
noncomputable def pontageref1_CmpC : Con := ⟨⟨[.pl (.sl (.int .i64)), .pl (.sl (.int .i64))], []⟩, ⟨[.pl (.int .i64)], []⟩, pontageref1_Cmp K0⟩
theorem ok36 : ConOk Tryz.prog 36 pontageref1_CmpC := mkOk (n := 36) (k := 60) (hs := []) (A := annL [([36], 0, .tmpl ⟨(.pl (.sl (.int .i64)) :: .pl (.sl (.int .i64)) :: dd 3 (.pl (.int .i64) :: dd 35 [])), []⟩)]) trivial (by intro x; kernel_rfl)
noncomputable def pontageref1_MinC : Con := ⟨⟨[.pl (.sl (.int .i64)), .pl (.sl (.int .i64))], []⟩, ⟨[.pl (.sl (.int .i64))], []⟩, pontageref1_Min K0⟩
theorem ok83 : ConOk Tryz.prog 83 pontageref1_MinC := mkOk (n := 83) (k := 60) (hs := [(36, .con pontageref1_CmpC)]) (A := fun _ _ => none) ⟨ok36, trivial⟩ (by intro x; kernel_rfl)
noncomputable def pontageref1_normC : Con := ⟨⟨[.pl (.sl (.int .i64))], []⟩, ⟨[.pl (.sl (.int .i64))], []⟩, pontageref1_norm K0⟩
theorem ok58 : ConOk Tryz.prog 58 pontageref1_normC := mkOk (n := 58) (k := 60) (hs := []) (A := annL [([58], 0, .tmpl ⟨(.pl (.sl (.int .i64)) :: dd 2 (.pl (.int .i64) :: dd 17 [])), []⟩)]) trivial (by intro x; kernel_rfl)
noncomputable def pontageref1_FromUint256C : Con := ⟨⟨[.pl u256], []⟩, ⟨[.pl (.sl (.int .i64))], []⟩, pontageref1_FromUint256 K0⟩
theorem ok35 : ConOk Tryz.prog 35 pontageref1_FromUint256C := mkOk (n := 35) (k := 60) (hs := [(58, .con pontageref1_normC)]) (A := annL [([35], 0, .tmpl ⟨(dd 1 (.ptr 0 [] :: dd 1 (.whole 1 :: .pl (.int .i64) :: dd 21 []))), [.box u256 (.pl u256), .row (.int .i64)]⟩)]) ⟨ok58, trivial⟩ (by intro x; kernel_rfl)
noncomputable def pontageref1_FromUint64C : Con := ⟨⟨[.pl (.int .u64)], []⟩, ⟨[.pl (.sl (.int .i64))], []⟩, pontageref1_FromUint64 K0⟩
theorem ok84 : ConOk Tryz.prog 84 pontageref1_FromUint64C := mkOk (n := 84) (k := 60) (hs := [(35, .con pontageref1_FromUint256C)]) (A := fun _ _ => none) ⟨ok35, trivial⟩ (by intro x; kernel_rfl)
noncomputable def pontageref1_MulC : Con := ⟨⟨[.pl (.sl (.int .i64)), .pl (.sl (.int .i64))], []⟩, ⟨[.pl (.sl (.int .i64))], []⟩, pontageref1_Mul K0⟩
theorem ok88 : ConOk Tryz.prog 88 pontageref1_MulC := mkOk (n := 88) (k := 60) (hs := [(58, .con pontageref1_normC)]) (A := annL [([88], 0, .tmpl ⟨(.pl (.sl (.int .i64)) :: .pl (.sl (.int .i64)) :: dd 3 (.whole 0 :: .pl (.int .i64) :: dd 56 [])), [.row (.int .i64)]⟩), ([88], 2, .tmpl ⟨(.pl (.sl (.int .i64)) :: .pl (.sl (.int .i64)) :: dd 3 (.whole 0 :: .pl (.int .i64) :: .pl (.int .i64) :: .pl (.int .i64) :: dd 54 [])), [.row (.int .i64)]⟩)]) ⟨ok58, trivial⟩ (by intro x; kernel_rfl)
noncomputable def pontageref1_SubC : Con := ⟨⟨[.pl (.sl (.int .i64)), .pl (.sl (.int .i64))], []⟩, ⟨[.pl (.sl (.int .i64))], []⟩, pontageref1_Sub K0⟩
theorem okf97 : ConFresh Tryz.prog 97 pontageref1_SubC := mkFresh (n := 97) (k := 80) (hs := [(58, .inl)]) (A := annL [([1000000, 97], 10, .join ⟨(.pl (.sl (.int .i64)) :: .pl (.sl (.int .i64)) :: dd 3 (.whole 0 :: dd 1 (.pl (.int .i64) :: .pl (.int .i64) :: dd 35 []))), [.row (.int .i64)]⟩), ([58, 14, 1, 97], 0, .tmpl ⟨(.whole 0 :: dd 2 (.pl (.int .i64) :: dd 61 [])), [.row (.int .i64)]⟩), ([97], 0, .tmpl ⟨(.pl (.sl (.int .i64)) :: .pl (.sl (.int .i64)) :: dd 3 (.whole 0 :: .pl (.int .i64) :: .pl (.int .i64) :: dd 36 [])), [.row (.int .i64)]⟩)]) trivial (by intro x; kernel_rfl)
noncomputable def pontageref1_shortC : Con := ⟨⟨[.pl (.sl (.int .i64)), .pl (.int .i64)], []⟩, ⟨[.pl (.sl (.int .i64)), .pl (.sl (.int .i64))], []⟩, pontageref1_short K0⟩
theorem ok131 : ConOk Tryz.prog 131 pontageref1_shortC := mkOk (n := 131) (k := 60) (hs := [(58, .con pontageref1_normC)]) (A := annL [([131], 0, .tmpl ⟨(.pl (.sl (.int .i64)) :: .pl (.int .i64) :: dd 4 (.whole 0 :: .pl (.int .i64) :: .pl (.int .i64) :: dd 32 [])), [.row (.int .i64)]⟩)]) ⟨ok58, trivial⟩ (by intro x; kernel_rfl)
noncomputable def pontageref1_DivC : Con := ⟨⟨[.pl (.sl (.int .i64)), .pl (.sl (.int .i64))], []⟩, ⟨[.pl (.sl (.int .i64)), .pl (.sl (.int .i64))], []⟩, pontageref1_Div K0⟩
theorem ok98 : ConOk Tryz.prog 98 pontageref1_DivC := mkOk (n := 98) (k := 90) (hs := [(36, .con pontageref1_CmpC), (58, .inl), (97, .fresh pontageref1_SubC), (131, .con pontageref1_shortC)]) (A := annL [([58, 18, 1, 98], 0, .tmpl ⟨(.whole 0 :: dd 2 (.pl (.int .i64) :: dd 17 (.pl (.sl (.int .i64)) :: .pl (.sl (.int .i64)) :: dd 4 (.whole 1 :: .whole 0 :: .pl (.int .i64) :: .pl (.int .i64) :: dd 104 [])))), [.row (.int .i64), .row (.int .i64)]⟩), ([58, 19, 1, 98], 0, .tmpl ⟨(.whole 0 :: dd 2 (.pl (.int .i64) :: dd 17 (.pl (.sl (.int .i64)) :: .pl (.sl (.int .i64)) :: dd 4 (.whole 1 :: .whole 0 :: .pl (.int .i64) :: .pl (.int .i64) :: dd 104 [])))), [.row (.int .i64), .row (.int .i64)]⟩), ([58, 27, 1, 98], 0, .tmpl ⟨(.whole 0 :: dd 2 (.pl (.int .i64) :: dd 24 (.whole 1 :: dd 106 []))), [.row (.int .i64), .row (.int .i64)]⟩), ([58, 27, 3, 98], 0, .tmpl ⟨(.whole 0 :: dd 2 (.pl (.int .i64) :: dd 128 (.pl (.sl (.int .i64)) :: dd 2 []))), [.row (.int .i64)]⟩), ([98], 0, .tmpl ⟨(.pl (.sl (.int .i64)) :: .pl (.sl (.int .i64)) :: dd 4 (.whole 0 :: .whole 1 :: .pl (.int .i64) :: dd 105 [])), [.row (.int .i64), .row (.int .i64)]⟩), ([98], 2, .tmpl ⟨(.pl (.sl (.int .i64)) :: .pl (.sl (.int .i64)) :: dd 4 (.whole 0 :: .whole 1 :: .pl (.int .i64) :: .pl (.int .i64) :: dd 104 [])), [.row (.int .i64), .row (.int .i64)]⟩), ([98], 4, .tmpl ⟨(.pl (.sl (.int .i64)) :: .pl (.sl (.int .i64)) :: dd 4 (.whole 0 :: .whole 1 :: .pl (.int .i64) :: .pl (.int .i64) :: .pl (.int .i64) :: .pl (.int .i64) :: dd 102 [])), [.row (.int .i64), .row (.int .i64)]⟩), ([98], 6, .tmpl ⟨(.pl (.sl (.int .i64)) :: .pl (.sl (.int .i64)) :: dd 4 (.whole 0 :: .whole 1 :: .pl (.int .i64) :: .pl (.int .i64) :: dd 2 (.pl (.sl (.int .i64)) :: .pl (.int .i64) :: dd 100 []))), [.row (.int .i64), .row (.int .i64)]⟩)]) ⟨ok36, okf97, ok131, trivial⟩ (by intro x; kernel_rfl)
noncomputable def pontageref12_inC : Con := ⟨⟨[.pl (.int .u64), .pl (.int .u64), .pl (.int .u64)], []⟩, ⟨[.pl .bool], []⟩, pontageref12_in K0⟩
theorem ok157 : ConOk Tryz.prog 157 pontageref12_inC := mkOk (n := 157) (k := 60) (hs := []) (A := fun _ _ => none) trivial (by intro x; kernel_rfl)
noncomputable def pontageref1_Uint64C : Con := ⟨⟨[.pl u256], []⟩, ⟨[.pl (.int .u64), .pl .bool], []⟩, pontageref1_Uint64 K0⟩
theorem ok102 : ConOk Tryz.prog 102 pontageref1_Uint64C := mkOk (n := 102) (k := 60) (hs := []) (A := fun _ _ => none) trivial (by intro x; kernel_rfl)
noncomputable def pontageref12_atLeastC : Con := ⟨⟨[.pl u256, .pl (.int .u64)], []⟩, ⟨[.pl .bool], []⟩, pontageref12_atLeast K0⟩
theorem ok158 : ConOk Tryz.prog 158 pontageref12_atLeastC := mkOk (n := 158) (k := 60) (hs := [(102, .con pontageref1_Uint64C)]) (A := fun _ _ => none) ⟨ok102, trivial⟩ (by intro x; kernel_rfl)
noncomputable def pontageref12_FirstInvalidC : Con := ⟨⟨[.pl Y_api_Params], []⟩, ⟨[.pl (.int .i64)], []⟩, pontageref12_FirstInvalid K0⟩
theorem ok144 : ConOk Tryz.prog 144 pontageref12_FirstInvalidC := mkOk (n := 144) (k := 90) (hs := [(157, .con pontageref12_inC), (158, .con pontageref12_atLeastC)]) (A := fun p _ => match p with | 1000000 :: _ => none | _ => some (.unroll 14)) ⟨ok157, ok158, trivial⟩ (by intro x; kernel_rfl)
noncomputable def pontageref12_ValidC : Con := ⟨⟨[.pl Y_api_Params], []⟩, ⟨[.pl .bool], []⟩, pontageref12_Valid K0⟩
theorem ok116 : ConOk Tryz.prog 116 pontageref12_ValidC := mkOk (n := 116) (k := 60) (hs := [(144, .con pontageref12_FirstInvalidC)]) (A := fun _ _ => none) ⟨ok144, trivial⟩ (by intro x; kernel_rfl)
noncomputable def pontageref13_restC : Con := ⟨⟨[.pl (.int .u64), .pl (.int .u64), .pl (.int .u64)], []⟩, ⟨[.pl (.int .u64)], []⟩, pontageref13_rest K0⟩
theorem ok115 : ConOk Tryz.prog 115 pontageref13_restC := mkOk (n := 115) (k := 60) (hs := [(24, .con pontageref1_ToUint256C), (36, .con pontageref1_CmpC), (84, .con pontageref1_FromUint64C), (88, .con pontageref1_MulC), (97, .fresh pontageref1_SubC)]) (A := fun _ _ => none) ⟨ok24, ok36, ok84, ok88, okf97, trivial⟩ (by intro x; kernel_rfl)
noncomputable def pontageref13_ExcessC : Con := ⟨⟨[.pl (.int .u64), .pl (.int .u64), .pl (.int .u64)], []⟩, ⟨[.pl (.int .u64)], []⟩, pontageref13_Excess K0⟩
theorem ok127 : ConOk Tryz.prog 127 pontageref13_ExcessC := mkOk (n := 127) (k := 60) (hs := [(115, .con pontageref13_restC)]) (A := fun _ _ => none) ⟨ok115, trivial⟩ (by intro x; kernel_rfl)
noncomputable def pontageref14_ExponentC : Con := ⟨⟨[.pl (.int .u64), .pl Y_api_Params], []⟩, ⟨[.pl (.int .u64), .pl (.int .i64)], []⟩, pontageref14_Exponent K0⟩
theorem ok90 : ConOk Tryz.prog 90 pontageref14_ExponentC := mkOk (n := 90) (k := 60) (hs := [(24, .con pontageref1_ToUint256C), (83, .con pontageref1_MinC), (84, .con pontageref1_FromUint64C), (88, .con pontageref1_MulC), (98, .con pontageref1_DivC), (116, .con pontageref12_ValidC), (127, .con pontageref13_ExcessC)]) (A := fun _ _ => none) ⟨ok24, ok83, ok84, ok88, ok98, ok116, ok127, trivial⟩ (by intro x; kernel_rfl)
noncomputable def pontageref1_AddC : Con := ⟨⟨[.pl (.sl (.int .i64)), .pl (.sl (.int .i64))], []⟩, ⟨[.pl (.sl (.int .i64))], []⟩, pontageref1_Add K0⟩
theorem ok34 : ConOk Tryz.prog 34 pontageref1_AddC := mkOk (n := 34) (k := 60) (hs := []) (A := annL [([1000000, 34], 7, .join ⟨(.pl (.sl (.int .i64)) :: .pl (.sl (.int .i64)) :: dd 3 (.whole 0 :: .pl (.int .i64) :: .pl (.int .i64) :: dd 44 [])), [.row (.int .i64)]⟩), ([1000000, 34], 9, .join ⟨(.pl (.sl (.int .i64)) :: .pl (.sl (.int .i64)) :: dd 3 (.whole 0 :: .pl (.int .i64) :: .pl (.int .i64) :: dd 44 [])), [.row (.int .i64)]⟩), ([34], 0, .tmpl ⟨(.pl (.sl (.int .i64)) :: .pl (.sl (.int .i64)) :: dd 3 (.whole 0 :: .pl (.int .i64) :: .pl (.int .i64) :: dd 44 [])), [.row (.int .i64)]⟩)]) trivial (by intro x; kernel_rfl)
noncomputable def pontageref5_ExpC : Con := ⟨⟨[.pl (.int .u64), .pl (.int .i64)], []⟩, ⟨[.pl (.int .u64), .pl (.int .i64)], []⟩, pontageref5_Exp K0⟩
theorem ok128 : ConOk Tryz.prog 128 pontageref5_ExpC := mkOk (n := 128) (k := 60) (hs := [(24, .con pontageref1_ToUint256C), (34, .con pontageref1_AddC), (84, .con pontageref1_FromUint64C), (88, .con pontageref1_MulC), (98, .con pontageref1_DivC)]) (A := annL [([1000000, 128], 4, .join ⟨(.pl (.int .u64) :: .pl (.int .i64) :: dd 43 []), []⟩), ([128], 0, .tmpl ⟨(.pl (.int .u64) :: dd 5 (.pl (.sl (.int .i64)) :: .pl (.int .i64) :: dd 37 [])), []⟩)]) ⟨ok24, ok34, ok84, ok88, ok98, trivial⟩ (by intro x; kernel_rfl)
noncomputable def pontageref1_FitsC : Con := ⟨⟨[.pl (.sl (.int .i64))], []⟩, ⟨[.pl .bool], []⟩, pontageref1_Fits K0⟩
theorem ok60 : ConOk Tryz.prog 60 pontageref1_FitsC := mkOk (n := 60) (k := 60) (hs := []) (A := fun _ _ => none) trivial (by intro x; kernel_rfl)
noncomputable def pontageref1_CheckedC : Con := ⟨⟨[.pl (.sl (.int .i64))], []⟩, ⟨[.pl u256, .pl (.int .i64)], []⟩, pontageref1_Checked K0⟩
theorem ok40 : ConOk Tryz.prog 40 pontageref1_CheckedC := mkOk (n := 40) (k := 60) (hs := [(24, .con pontageref1_ToUint256C), (60, .con pontageref1_FitsC)]) (A := fun _ _ => none) ⟨ok24, ok60, trivial⟩ (by intro x; kernel_rfl)
noncomputable def pontageref5_ScaleC : Con := ⟨⟨[.pl u256, .pl (.int .u64)], []⟩, ⟨[.pl u256, .pl (.int .i64)], []⟩, pontageref5_Scale K0⟩
theorem ok129 : ConOk Tryz.prog 129 pontageref5_ScaleC := mkOk (n := 129) (k := 60) (hs := [(35, .con pontageref1_FromUint256C), (40, .con pontageref1_CheckedC), (84, .con pontageref1_FromUint64C), (88, .con pontageref1_MulC), (98, .con pontageref1_DivC)]) (A := fun _ _ => none) ⟨ok35, ok40, ok84, ok88, ok98, trivial⟩ (by intro x; kernel_rfl)
noncomputable def pontageref5_ScaleExpC : Con := ⟨⟨[.pl u256, .pl (.int .u64), .pl (.int .i64)], []⟩, ⟨[.pl u256, .pl (.int .i64)], []⟩, pontageref5_ScaleExp K0⟩
theorem ok91 : ConOk Tryz.prog 91 pontageref5_ScaleExpC := mkOk (n := 91) (k := 60) (hs := [(128, .con pontageref5_ExpC), (129, .con pontageref5_ScaleC)]) (A := fun _ _ => none) ⟨ok128, ok129, trivial⟩ (by intro x; kernel_rfl)
noncomputable def pontageref14_FeeC : Con := ⟨⟨[.pl (.int .u64), .pl Y_api_Params], []⟩, ⟨[.pl u256, .pl (.int .i64)], []⟩, pontageref14_Fee K0⟩
theorem ok61 : ConOk Tryz.prog 61 pontageref14_FeeC := mkOk (n := 61) (k := 60) (hs := [(90, .con pontageref14_ExponentC), (91, .con pontageref5_ScaleExpC)]) (A := fun _ _ => none) ⟨ok90, ok91, trivial⟩ (by intro x; kernel_rfl)
noncomputable def pontageref15_GenesisC : Con := ⟨⟨[.pl Y_api_Params], []⟩, ⟨[.pl Y_api_Block, .pl (.int .i64)], []⟩, pontageref15_Genesis K0⟩
theorem ok42 : ConOk Tryz.prog 42 pontageref15_GenesisC := mkOk (n := 42) (k := 60) (hs := [(61, .con pontageref14_FeeC)]) (A := fun _ _ => none) ⟨ok61, trivial⟩ (by intro x; kernel_rfl)
noncomputable def pontageref21_GenesisC : Con := ⟨⟨[], []⟩, ⟨[.pl Y_api_Pricer], []⟩, pontageref21_Genesis K0⟩
theorem ok43 : ConOk Tryz.prog 43 pontageref21_GenesisC := mkOk (n := 43) (k := 60) (hs := []) (A := fun _ _ => none) trivial (by intro x; kernel_rfl)
noncomputable def pontageref11_NewC : Con := ⟨⟨[], []⟩, ⟨[.ptr 0 []], H_pontageref11_Ledger⟩, pontageref11_New K0⟩
theorem ok44 : ConOk Tryz.prog 44 pontageref11_NewC := mkOk (n := 44) (k := 140) (hs := []) (A := fun _ _ => none) trivial (by intro x; kernel_rfl)
noncomputable def pontageref25_NewC : Con := ⟨⟨[], []⟩, ⟨[.ptr 0 []], H_pontageref25_Escrow⟩, pontageref25_New K0⟩
theorem ok45 : ConOk Tryz.prog 45 pontageref25_NewC := mkOk (n := 45) (k := 140) (hs := []) (A := fun _ _ => none) trivial (by intro x; kernel_rfl)
noncomputable def pontageref28_NewC : Con := ⟨⟨[], []⟩, ⟨[.ptr 0 []], H_pontageref28_Machine⟩, pontageref28_New K0⟩
theorem ok18 : ConOk Tryz.prog 18 pontageref28_NewC := mkOk (n := 18) (k := 140) (hs := [(41, .con pontageref12_GenesisC), (42, .con pontageref15_GenesisC), (43, .con pontageref21_GenesisC), (44, .con pontageref11_NewC), (45, .con pontageref25_NewC)]) (A := fun _ _ => none) ⟨ok41, ok42, ok43, ok44, ok45, trivial⟩ (by intro x; kernel_rfl)
noncomputable def pontagelaw0_SetupStepsC : Con := ⟨⟨[], []⟩, ⟨[.whole 0], [.row Y_api_Step]⟩, pontagelaw0_SetupSteps K0⟩
theorem ok19 : ConOk Tryz.prog 19 pontagelaw0_SetupStepsC := mkOk (n := 19) (k := 140) (hs := []) (A := annL [([19], 0, .tmpl ⟨(dd 1 (.whole 0 :: .pl (.int .u64) :: dd 24 [])), [.row Y_api_Step]⟩), ([19], 2, .tmpl ⟨(dd 1 (.whole 0 :: dd 1 (.pl (.int .u64) :: dd 23 []))), [.row Y_api_Step]⟩)]) trivial (by intro x; kernel_rfl)
noncomputable def pontageref26_ValidKindC : Con := ⟨⟨[.pl (.int .i64)], []⟩, ⟨[.pl .bool], []⟩, pontageref26_ValidKind K0⟩
theorem ok46 : ConOk Tryz.prog 46 pontageref26_ValidKindC := mkOk (n := 46) (k := 60) (hs := []) (A := fun _ _ => none) trivial (by intro x; kernel_rfl)
noncomputable def pontageref1_IsZeroC : Con := ⟨⟨[.pl u256], []⟩, ⟨[.pl .bool], []⟩, pontageref1_IsZero K0⟩
theorem ok56 : ConOk Tryz.prog 56 pontageref1_IsZeroC := mkOk (n := 56) (k := 60) (hs := []) (A := fun _ _ => none) trivial (by intro x; kernel_rfl)
noncomputable def pontageref11_Ledger_atC : Con := ⟨⟨[.bp Y_pontageref11_Ledger, .pl (.int .u64)], []⟩, ⟨[.pl (.int .i64)], []⟩, pontageref11_Ledger_at K0⟩
theorem ok126 : ConOk Tryz.prog 126 pontageref11_Ledger_atC := mkOk (n := 126) (k := 140) (hs := []) (A := annL [([126], 0, .tmpl ⟨(.bp Y_pontageref11_Ledger :: .pl (.int .u64) :: dd 3 (.pl (.int .i64) :: dd 20 [])), []⟩)]) trivial (by intro x; kernel_rfl)
noncomputable def pontageref11_Ledger_GetC : Con := ⟨⟨[.bp Y_pontageref11_Ledger, .pl (.int .u64)], []⟩, ⟨[.pl Y_api_Account], []⟩, pontageref11_Ledger_Get K0⟩
theorem ok87 : ConOk Tryz.prog 87 pontageref11_Ledger_GetC := mkOk (n := 87) (k := 140) (hs := [(126, .con pontageref11_Ledger_atC)]) (A := fun _ _ => none) ⟨ok126, trivial⟩ (by intro x; kernel_rfl)
noncomputable def pontageref23_tipC : Con := ⟨⟨[.pl Y_api_Transaction, .pl u256], []⟩, ⟨[.pl (.sl (.int .i64))], []⟩, pontageref23_tip K0⟩
theorem ok96 : ConOk Tryz.prog 96 pontageref23_tipC := mkOk (n := 96) (k := 60) (hs := [(35, .con pontageref1_FromUint256C), (83, .con pontageref1_MinC), (97, .fresh pontageref1_SubC)]) (A := fun _ _ => none) ⟨ok35, ok83, okf97, trivial⟩ (by intro x; kernel_rfl)
noncomputable def pontageref23_GasPriceC : Con := ⟨⟨[.pl Y_api_Transaction, .pl u256], []⟩, ⟨[.pl u256, .pl (.int .i64)], []⟩, pontageref23_GasPrice K0⟩
theorem ok92 : ConOk Tryz.prog 92 pontageref23_GasPriceC := mkOk (n := 92) (k := 60) (hs := [(34, .con pontageref1_AddC), (35, .con pontageref1_FromUint256C), (36, .con pontageref1_CmpC), (40, .con pontageref1_CheckedC), (96, .con pontageref23_tipC)]) (A := fun _ _ => none) ⟨ok34, ok35, ok36, ok40, ok96, trivial⟩ (by intro x; kernel_rfl)
noncomputable def pontageref15_GasRemainingC : Con := ⟨⟨[.pl Y_api_Block, .pl Y_api_Params], []⟩, ⟨[.pl (.int .u64)], []⟩, pontageref15_GasRemaining K0⟩
theorem ok93 : ConOk Tryz.prog 93 pontageref15_GasRemainingC := mkOk (n := 93) (k := 60) (hs := []) (A := fun _ _ => none) trivial (by intro x; kernel_rfl)
noncomputable def pontageref23_CoversC : Con := ⟨⟨[.pl Y_api_Transaction, .pl u256, .pl u256], []⟩, ⟨[.pl .bool], []⟩, pontageref23_Covers K0⟩
theorem ok94 : ConOk Tryz.prog 94 pontageref23_CoversC := mkOk (n := 94) (k := 60) (hs := [(34, .con pontageref1_AddC), (35, .con pontageref1_FromUint256C), (36, .con pontageref1_CmpC), (84, .con pontageref1_FromUint64C), (88, .con pontageref1_MulC)]) (A := fun _ _ => none) ⟨ok34, ok35, ok36, ok84, ok88, trivial⟩ (by intro x; kernel_rfl)
noncomputable def pontageref28_Machine_checkC : Con := ⟨⟨[.ptr 0 [], .pl Y_api_Transaction], H_pontageref28_Machine⟩, ⟨[.pl u256, .pl (.int .i64)], H_pontageref28_Machine⟩, pontageref28_Machine_check K0⟩
theorem ok62 : ConOk Tryz.prog 62 pontageref28_Machine_checkC := mkOk (n := 62) (k := 140) (hs := [(87, .con pontageref11_Ledger_GetC), (92, .con pontageref23_GasPriceC), (93, .con pontageref15_GasRemainingC), (94, .con pontageref23_CoversC)]) (A := annL [([1000000, 62], 7, .join ⟨(.ptr 0 [] :: dd 2 (.ptr 8 [] :: .ptr 9 [] :: dd 1 (.ptr 10 [] :: dd 75 (.ptr 0 [] :: .ptr 1 [] :: .ptr 4 [] :: [])))), [.box Y_pontageref28_Machine ((.pair (.pl (.int .u64)) ((.pair (.pl Y_api_Params) ((.pair (.pl Y_api_Block) ((.pair (.pl (.int .u64)) ((.pair (.pl Y_api_Pricer) ((.pair (.ptr 1 []) ((.pair (.whole 3) ((.pair (.ptr 4 []) (.pl .nil))))))))))))))))), .box Y_pontageref11_Ledger ((.pair (.whole 2) (.pl (.cons (.arr 4 u256) .nil)))), .row Y_api_Account, .row Y_api_Message, .box Y_pontageref25_Escrow ((.pair (.pl u256) ((.pair (.whole 5) ((.pair (.whole 6) ((.pair (.whole 7) (.pl .nil))))))))), .row (.arr 32 (.int .u8)), .row (.int .u64), .row Y_api_Payment, .box Y_api_Transaction (.pl Y_api_Transaction), .box u256 (.pl u256), .box u256 (.pl u256)]⟩)]) ⟨ok87, ok92, ok93, ok94, trivial⟩ (by intro x; kernel_rfl)
noncomputable def pontageref9_matchLengthC : Con := ⟨⟨[.pl (.sl (.int .u8)), .pl (.int .i64), .pl (.int .i64)], []⟩, ⟨[.pl (.int .i64)], []⟩, pontageref9_matchLength K0⟩
theorem ok165 : ConOk Tryz.prog 165 pontageref9_matchLengthC := mkOk (n := 165) (k := 60) (hs := []) (A := annL [([165], 0, .tmpl ⟨(.pl (.sl (.int .u8)) :: .pl (.int .i64) :: .pl (.int .i64) :: dd 4 (.pl (.int .i64) :: dd 30 [])), []⟩)]) trivial (by intro x; kernel_rfl)
noncomputable def pontageref9_bestC : Con := ⟨⟨[.pl (.sl (.int .u8)), .pl (.int .i64)], []⟩, ⟨[.pl (.int .i64), .pl (.int .i64)], []⟩, pontageref9_best K0⟩
theorem ok161 : ConOk Tryz.prog 161 pontageref9_bestC := mkOk (n := 161) (k := 60) (hs := [(165, .con pontageref9_matchLengthC)]) (A := annL [([1000000, 161], 6, .join ⟨(.pl (.sl (.int .u8)) :: .pl (.int .i64) :: dd 4 (.pl (.int .i64) :: .pl (.int .i64) :: .pl (.int .i64) :: dd 4 (.pl (.int .i64) :: .pl (.int .i64) :: .pl .bool :: dd 14 []))), []⟩), ([161], 0, .tmpl ⟨(.pl (.sl (.int .u8)) :: .pl (.int .i64) :: dd 4 (.pl (.int .i64) :: .pl (.int .i64) :: .pl (.int .i64) :: dd 21 [])), []⟩)]) ⟨ok165, trivial⟩ (by intro x; kernel_rfl)
noncomputable def pontageref9_CompressC : Con := ⟨⟨[.pl (.sl (.int .u8))], []⟩, ⟨[.pl (.sl (.int .u8))], []⟩, pontageref9_Compress K0⟩
theorem ok149 : ConOk Tryz.prog 149 pontageref9_CompressC := mkOk (n := 149) (k := 90) (hs := [(161, .con pontageref9_bestC), (162, .inl)]) (A := annL [([149], 0, .tmpl ⟨(.pl (.sl (.int .u8)) :: dd 2 (.whole 0 :: .pl (.int .i64) :: .pl (.int .i64) :: dd 45 [])), [.row (.int .u8)]⟩), ([162, 11, 4, 149], 0, .tmpl ⟨(.whole 0 :: .pl (.sl (.int .u8)) :: dd 75 []), [.row (.int .u8)]⟩), ([162, 7, 5, 149], 0, .tmpl ⟨(.whole 0 :: .pl (.sl (.int .u8)) :: dd 24 (.pl (.sl (.int .u8)) :: dd 4 (.pl (.int .i64) :: .pl (.int .i64) :: .pl (.int .i64) :: dd 43 []))), [.row (.int .u8)]⟩)]) ⟨ok161, trivial⟩ (by intro x; kernel_rfl)
noncomputable def pontageref10_UnitsC : Con := ⟨⟨[.pl (.sl (.int .u8)), .pl (.int .u64), .pl (.int .u64)], []⟩, ⟨[.pl (.int .u64), .pl (.int .i64)], []⟩, pontageref10_Units K0⟩
theorem ok130 : ConOk Tryz.prog 130 pontageref10_UnitsC := mkOk (n := 130) (k := 60) (hs := [(149, .con pontageref9_CompressC)]) (A := annL [([1000000, 130], 9, .join ⟨(dd 2 (.pl (.int .u64) :: dd 5 (.pl (.int .u64) :: dd 20 []))), []⟩)]) ⟨ok149, trivial⟩ (by intro x; kernel_rfl)
noncomputable def pontageref23_gasC : Con := ⟨⟨[.pl Y_api_Transaction, .pl u256, .pl u256, .pl Y_api_Params], []⟩, ⟨[.pl (.int .u64), .pl (.int .u64), .pl (.int .i64)], []⟩, pontageref23_gas K0⟩
theorem ok95 : ConOk Tryz.prog 95 pontageref23_gasC := mkOk (n := 95) (k := 60) (hs := [(24, .con pontageref1_ToUint256C), (35, .con pontageref1_FromUint256C), (36, .con pontageref1_CmpC), (56, .con pontageref1_IsZeroC), (60, .con pontageref1_FitsC), (84, .con pontageref1_FromUint64C), (88, .con pontageref1_MulC), (98, .con pontageref1_DivC), (116, .con pontageref12_ValidC), (130, .con pontageref10_UnitsC)]) (A := fun _ _ => none) ⟨ok24, ok35, ok36, ok56, ok60, ok84, ok88, ok98, ok116, ok130, trivial⟩ (by intro x; kernel_rfl)
noncomputable def pontageref23_ComputeC : Con := ⟨⟨[.pl Y_api_Transaction, .pl u256, .pl u256, .pl Y_api_Params], []⟩, ⟨[.pl Y_api_Charge, .pl (.int .i64)], []⟩, pontageref23_Compute K0⟩
theorem ok63 : ConOk Tryz.prog 63 pontageref23_ComputeC := mkOk (n := 63) (k := 60) (hs := [(24, .con pontageref1_ToUint256C), (34, .con pontageref1_AddC), (35, .con pontageref1_FromUint256C), (60, .con pontageref1_FitsC), (83, .con pontageref1_MinC), (84, .con pontageref1_FromUint64C), (88, .con pontageref1_MulC), (95, .con pontageref23_gasC), (96, .con pontageref23_tipC), (97, .fresh pontageref1_SubC), (98, .con pontageref1_DivC)]) (A := annL [([1000000, 63], 20, .join ⟨(dd 8 (.ptr 0 [] :: dd 4 (.ptr 1 [] :: dd 1 (.pl (.sl (.int .i64)) :: .pl (.sl (.int .i64)) :: dd 1 (.pl (.sl (.int .i64)) :: dd 1 (.pl (.sl (.int .i64)) :: dd 1 (.pl (.sl (.int .i64)) :: dd 111 []))))))), [.box Y_api_Charge (.pl Y_api_Charge), .box Y_api_Charge (.pl Y_api_Charge)]⟩), ([1000000, 63], 9, .join ⟨(dd 4 (.ptr 0 [] :: .ptr 1 [] :: dd 1 (.ptr 2 [] :: .ptr 3 [] :: dd 2 (.pl (.int .u64) :: dd 1 (.ptr 4 [] :: dd 120 []))))), [.box Y_api_Transaction (.pl Y_api_Transaction), .box u256 (.pl u256), .box Y_api_Params (.pl Y_api_Params), .box Y_api_Charge (.pl Y_api_Charge), .box Y_api_Charge (.pl Y_api_Charge)]⟩)]) ⟨ok24, ok34, ok35, ok60, ok83, ok84, ok88, ok95, ok96, okf97, ok98, trivial⟩ (by intro x; kernel_rfl)
noncomputable def pontageref16_ValidPosterC : Con := ⟨⟨[.pl Y_api_Poster], []⟩, ⟨[.pl .bool], []⟩, pontageref16_ValidPoster K0⟩
theorem ok150 : ConOk Tryz.prog 150 pontageref16_ValidPosterC := mkOk (n := 150) (k := 60) (hs := [(34, .con pontageref1_AddC), (35, .con pontageref1_FromUint256C), (36, .con pontageref1_CmpC), (56, .con pontageref1_IsZeroC)]) (A := fun _ _ => none) ⟨ok34, ok35, ok36, ok56, trivial⟩ (by intro x; kernel_rfl)
noncomputable def pontageref16_ValidC : Con := ⟨⟨[.pl (.sl Y_api_Poster)], []⟩, ⟨[.pl .bool], []⟩, pontageref16_Valid K0⟩
theorem ok132 : ConOk Tryz.prog 132 pontageref16_ValidC := mkOk (n := 132) (k := 60) (hs := [(150, .con pontageref16_ValidPosterC)]) (A := annL [([132], 0, .tmpl ⟨(.pl (.sl Y_api_Poster) :: dd 2 (.pl (.int .i64) :: dd 33 [])), []⟩)]) ⟨ok150, trivial⟩ (by intro x; kernel_rfl)
noncomputable def pontageref3_ValidC : Con := ⟨⟨[.pl Y_api_Int256], []⟩, ⟨[.pl .bool], []⟩, pontageref3_Valid K0⟩
theorem ok133 : ConOk Tryz.prog 133 pontageref3_ValidC := mkOk (n := 133) (k := 60) (hs := [(56, .con pontageref1_IsZeroC)]) (A := fun _ _ => none) ⟨ok56, trivial⟩ (by intro x; kernel_rfl)
noncomputable def pontageref21_ValidC : Con := ⟨⟨[.pl Y_api_Pricer], []⟩, ⟨[.pl .bool], []⟩, pontageref21_Valid K0⟩
theorem ok99 : ConOk Tryz.prog 99 pontageref21_ValidC := mkOk (n := 99) (k := 60) (hs := [(132, .con pontageref16_ValidC), (133, .con pontageref3_ValidC)]) (A := annL [([1000000, 99], 4, .join ⟨(dd 1 (.ptr 0 [] :: dd 28 [])), [.box Y_api_Pricer (.pl Y_api_Pricer)]⟩), ([99], 0, .tmpl ⟨(dd 1 (.ptr 0 [] :: dd 1 (.pl (.int .i64) :: dd 26 []))), [.box Y_api_Pricer (.pl Y_api_Pricer)]⟩)]) ⟨ok132, ok133, trivial⟩ (by intro x; kernel_rfl)
noncomputable def pontageref21_AddUnitsC : Con := ⟨⟨[.pl Y_api_Pricer, .pl (.int .u64)], []⟩, ⟨[.pl Y_api_Pricer, .pl (.int .i64)], []⟩, pontageref21_AddUnits K0⟩
theorem ok64 : ConOk Tryz.prog 64 pontageref21_AddUnitsC := mkOk (n := 64) (k := 60) (hs := [(99, .con pontageref21_ValidC)]) (A := fun _ _ => none) ⟨ok99, trivial⟩ (by intro x; kernel_rfl)
noncomputable def pontageref11_Ledger_putC : Con := ⟨⟨[.ptr 0 [], .pl Y_api_Account], H_pontageref11_Ledger⟩, ⟨[], H_pontageref11_Ledger⟩, pontageref11_Ledger_put K0⟩
theorem ok101 : ConOk Tryz.prog 101 pontageref11_Ledger_putC := mkOk (n := 101) (k := 140) (hs := [(126, .con pontageref11_Ledger_atC)]) (A := fun _ _ => none) ⟨ok126, trivial⟩ (by intro x; kernel_rfl)
noncomputable def pontageref1_Sub256C : Con := ⟨⟨[.pl u256, .pl u256], []⟩, ⟨[.pl u256, .pl (.int .i64)], []⟩, pontageref1_Sub256 K0⟩
theorem ok111 : ConOk Tryz.prog 111 pontageref1_Sub256C := mkOk (n := 111) (k := 60) (hs := [(24, .con pontageref1_ToUint256C), (35, .con pontageref1_FromUint256C), (36, .con pontageref1_CmpC), (97, .fresh pontageref1_SubC)]) (A := fun _ _ => none) ⟨ok24, ok35, ok36, okf97, trivial⟩ (by intro x; kernel_rfl)
noncomputable def pontageref11_Ledger_debitC : Con := ⟨⟨[.ptr 0 [], .pl (.int .u64), .pl u256], H_pontageref11_Ledger⟩, ⟨[.pl .bool], H_pontageref11_Ledger⟩, pontageref11_Ledger_debit K0⟩
theorem ok100 : ConOk Tryz.prog 100 pontageref11_Ledger_debitC := mkOk (n := 100) (k := 140) (hs := [(87, .con pontageref11_Ledger_GetC), (101, .con pontageref11_Ledger_putC), (111, .con pontageref1_Sub256C)]) (A := fun _ _ => none) ⟨ok87, ok101, ok111, trivial⟩ (by intro x; kernel_rfl)
noncomputable def pontageref11_Ledger_PayVaultC : Con := ⟨⟨[.ptr 0 [], .pl (.int .u64), .pl (.int .i64), .pl u256], H_pontageref11_Ledger⟩, ⟨[.pl (.int .i64)], H_pontageref11_Ledger⟩, pontageref11_Ledger_PayVault K0⟩
theorem ok65 : ConOk Tryz.prog 65 pontageref11_Ledger_PayVaultC := mkOk (n := 65) (k := 140) (hs := [(24, .con pontageref1_ToUint256C), (34, .con pontageref1_AddC), (35, .con pontageref1_FromUint256C), (100, .con pontageref11_Ledger_debitC)]) (A := annL [([1000000, 65], 4, .join ⟨(.ptr 0 [] :: .pl (.int .u64) :: .pl (.int .i64) :: dd 4 (.ptr 2 [] :: dd 34 (.ptr 0 [] :: []))), [.box Y_pontageref11_Ledger ((.pair (.whole 1) (.pl (.cons (.arr 4 u256) .nil)))), .row Y_api_Account, .box u256 (.pl u256)]⟩)]) ⟨ok24, ok34, ok35, ok100, trivial⟩ (by intro x; kernel_rfl)
noncomputable def pontageref11_Ledger_IncrementNonceC : Con := ⟨⟨[.ptr 0 [], .pl (.int .u64)], H_pontageref11_Ledger⟩, ⟨[.pl (.int .i64)], H_pontageref11_Ledger⟩, pontageref11_Ledger_IncrementNonce K0⟩
theorem ok66 : ConOk Tryz.prog 66 pontageref11_Ledger_IncrementNonceC := mkOk (n := 66) (k := 140) (hs := [(87, .con pontageref11_Ledger_GetC), (101, .con pontageref11_Ledger_putC)]) (A := fun _ _ => none) ⟨ok87, ok101, trivial⟩ (by intro x; kernel_rfl)
noncomputable def pontageref13_AddC : Con := ⟨⟨[.pl (.int .u64), .pl (.int .u64)], []⟩, ⟨[.pl (.int .u64)], []⟩, pontageref13_Add K0⟩
theorem ok67 : ConOk Tryz.prog 67 pontageref13_AddC := mkOk (n := 67) (k := 60) (hs := [(24, .con pontageref1_ToUint256C), (34, .con pontageref1_AddC), (84, .con pontageref1_FromUint64C), (102, .con pontageref1_Uint64C)]) (A := fun _ _ => none) ⟨ok24, ok34, ok84, ok102, trivial⟩ (by intro x; kernel_rfl)
noncomputable def pontageref11_Ledger_creditC : Con := ⟨⟨[.ptr 0 [], .pl (.int .u64), .pl u256], H_pontageref11_Ledger⟩, ⟨[], H_pontageref11_Ledger⟩, pontageref11_Ledger_credit K0⟩
theorem ok103 : ConOk Tryz.prog 103 pontageref11_Ledger_creditC := mkOk (n := 103) (k := 140) (hs := [(24, .con pontageref1_ToUint256C), (34, .con pontageref1_AddC), (35, .con pontageref1_FromUint256C), (87, .con pontageref11_Ledger_GetC), (101, .con pontageref11_Ledger_putC)]) (A := fun _ _ => none) ⟨ok24, ok34, ok35, ok87, ok101, trivial⟩ (by intro x; kernel_rfl)
noncomputable def pontageref11_Ledger_TransferC : Con := ⟨⟨[.ptr 0 [], .pl (.int .u64), .pl (.int .u64), .pl u256], H_pontageref11_Ledger⟩, ⟨[.pl (.int .i64)], H_pontageref11_Ledger⟩, pontageref11_Ledger_Transfer K0⟩
theorem ok68 : ConOk Tryz.prog 68 pontageref11_Ledger_TransferC := mkOk (n := 68) (k := 140) (hs := [(100, .con pontageref11_Ledger_debitC), (103, .con pontageref11_Ledger_creditC)]) (A := annL [([1000000, 68], 4, .join ⟨(.ptr 0 [] :: .pl (.int .u64) :: .pl (.int .u64) :: dd 4 (.ptr 2 [] :: dd 16 (.ptr 0 [] :: []))), [.box Y_pontageref11_Ledger ((.pair (.whole 1) (.pl (.cons (.arr 4 u256) .nil)))), .row Y_api_Account, .box u256 (.pl u256)]⟩)]) ⟨ok100, ok103, trivial⟩ (by intro x; kernel_rfl)
noncomputable def pontageref11_Ledger_WithdrawC : Con := ⟨⟨[.ptr 0 [], .pl (.int .u64), .pl u256], H_pontageref11_Ledger⟩, ⟨[.pl (.int .i64)], H_pontageref11_Ledger⟩, pontageref11_Ledger_Withdraw K0⟩
theorem ok69 : ConOk Tryz.prog 69 pontageref11_Ledger_WithdrawC := mkOk (n := 69) (k := 140) (hs := [(100, .con pontageref11_Ledger_debitC)]) (A := fun _ _ => none) ⟨ok100, trivial⟩ (by intro x; kernel_rfl)
noncomputable def pontageref7_wordsC : Con := ⟨⟨[], []⟩, ⟨[.pl (.arr 64 (.int .u32))], []⟩, pontageref7_words K0⟩
theorem ok166 : ConOk Tryz.prog 166 pontageref7_wordsC := mkOk (n := 166) (k := 60) (hs := []) (A := fun _ _ => none) trivial (by intro x; kernel_rfl)
noncomputable def pontageref7_rightC : Con := ⟨⟨[.pl (.int .u32), .pl (.int .u64)], []⟩, ⟨[.pl (.int .u32)], []⟩, pontageref7_right K0⟩
theorem ok167 : ConOk Tryz.prog 167 pontageref7_rightC := mkOk (n := 167) (k := 60) (hs := []) (A := fun _ _ => none) trivial (by intro x; kernel_rfl)
noncomputable def pontageref7_blockC : Con := ⟨⟨[.pl (.arr 8 (.int .u32)), .pl (.sl (.int .u8))], []⟩, ⟨[.pl (.arr 8 (.int .u32))], []⟩, pontageref7_block K0⟩
theorem ok163 : ConOk Tryz.prog 163 pontageref7_blockC := mkOk (n := 163) (k := 60) (hs := [(166, .con pontageref7_wordsC), (167, .con pontageref7_rightC)]) (A := annL [([163], 0, .tmpl ⟨(dd 1 (.pl (.sl (.int .u8)) :: .ptr 0 [] :: dd 1 (.ptr 1 [] :: .ptr 2 [] :: .ptr 3 [] :: .pl (.int .i64) :: dd 183 []))), [.box (.arr 8 (.int .u32)) (.pl (.arr 8 (.int .u32))), .box (.arr 8 (.int .u32)) (.pl (.arr 8 (.int .u32))), .box (.arr 64 (.int .u32)) (.pl (.arr 64 (.int .u32))), .box (.arr 64 (.int .u32)) (.pl (.arr 64 (.int .u32)))]⟩), ([163], 2, .tmpl ⟨(dd 2 (.ptr 0 [] :: dd 1 (.ptr 1 [] :: .ptr 2 [] :: .ptr 3 [] :: dd 3 (.ptr 4 [] :: .pl (.int .i64) :: dd 179 [])))), [.box (.arr 8 (.int .u32)) (.pl (.arr 8 (.int .u32))), .box (.arr 8 (.int .u32)) (.pl (.arr 8 (.int .u32))), .box (.arr 64 (.int .u32)) (.pl (.arr 64 (.int .u32))), .box (.arr 64 (.int .u32)) (.pl (.arr 64 (.int .u32))), .box (.arr 8 (.int .u32)) (.pl (.arr 8 (.int .u32)))]⟩), ([163], 4, .tmpl ⟨(dd 2 (.ptr 0 [] :: dd 1 (.ptr 1 [] :: dd 5 (.ptr 2 [] :: dd 5 (.pl (.int .i64) :: dd 174 []))))), [.box (.arr 8 (.int .u32)) (.pl (.arr 8 (.int .u32))), .box (.arr 8 (.int .u32)) (.pl (.arr 8 (.int .u32))), .box (.arr 8 (.int .u32)) (.pl (.arr 8 (.int .u32)))]⟩)]) ⟨ok166, ok167, trivial⟩ (by intro x; kernel_rfl)
noncomputable def pontageref7_SumC : Con := ⟨⟨[.pl (.sl (.int .u8))], []⟩, ⟨[.pl (.arr 32 (.int .u8))], []⟩, pontageref7_Sum K0⟩
theorem ok151 : ConOk Tryz.prog 151 pontageref7_SumC := mkOk (n := 151) (k := 60) (hs := [(163, .con pontageref7_blockC)]) (A := annL [([151], 0, .tmpl ⟨(.pl (.sl (.int .u8)) :: dd 1 (.ptr 0 [] :: .whole 1 :: dd 67 [])), [.box (.arr 32 (.int .u8)) (.pl (.arr 32 (.int .u8))), .row (.int .u8)]⟩), ([151], 2, .tmpl ⟨(dd 2 (.ptr 0 [] :: .whole 1 :: .pl (.int .u64) :: .pl (.int .i64) :: dd 65 [])), [.box (.arr 32 (.int .u8)) (.pl (.arr 32 (.int .u8))), .row (.int .u8)]⟩), ([151], 4, .tmpl ⟨(dd 2 (.ptr 0 [] :: .whole 1 :: dd 2 (.ptr 2 [] :: .pl (.int .i64) :: dd 63 []))), [.box (.arr 32 (.int .u8)) (.pl (.arr 32 (.int .u8))), .row (.int .u8), .box (.arr 8 (.int .u32)) (.pl (.arr 8 (.int .u32)))]⟩), ([151], 6, .tmpl ⟨(dd 2 (.ptr 0 [] :: dd 3 (.ptr 1 [] :: dd 1 (.ptr 2 [] :: .pl (.int .i64) :: dd 61 [])))), [.box (.arr 32 (.int .u8)) (.pl (.arr 32 (.int .u8))), .box (.arr 8 (.int .u32)) (.pl (.arr 8 (.int .u32))), .box (.arr 32 (.int .u8)) (.pl (.arr 32 (.int .u8)))]⟩)]) ⟨ok163, trivial⟩ (by intro x; kernel_rfl)
noncomputable def pontageref7_LeafC : Con := ⟨⟨[.pl (.sl (.int .u8))], []⟩, ⟨[.pl (.arr 32 (.int .u8))], []⟩, pontageref7_Leaf K0⟩
theorem ok146 : ConOk Tryz.prog 146 pontageref7_LeafC := mkOk (n := 146) (k := 60) (hs := [(151, .con pontageref7_SumC)]) (A := fun _ _ => none) ⟨ok151, trivial⟩ (by intro x; kernel_rfl)
noncomputable def pontageref6_digitsC : Con := ⟨⟨[.pl u256], []⟩, ⟨[.pl (.sl (.int .u8))], []⟩, pontageref6_digits K0⟩
theorem ok164 : ConOk Tryz.prog 164 pontageref6_digitsC := mkOk (n := 164) (k := 60) (hs := []) (A := annL [([164], 0, .tmpl ⟨(dd 1 (.ptr 0 [] :: dd 1 (.whole 1 :: .pl (.int .i64) :: dd 27 []))), [.box u256 (.pl u256), .row (.int .u8)]⟩)]) trivial (by intro x; kernel_rfl)
noncomputable def pontageref6_AppendUint256C : Con := ⟨⟨[.pl (.sl (.int .u8)), .pl u256], []⟩, ⟨[.pl (.sl (.int .u8))], []⟩, pontageref6_AppendUint256 K0⟩
theorem ok159 : ConOk Tryz.prog 159 pontageref6_AppendUint256C := mkOk (n := 159) (k := 60) (hs := [(164, .con pontageref6_digitsC)]) (A := fun _ _ => none) ⟨ok164, trivial⟩ (by intro x; kernel_rfl)
noncomputable def pontageref6_AppendUint64C : Con := ⟨⟨[.pl (.sl (.int .u8)), .pl (.int .u64)], []⟩, ⟨[.pl (.sl (.int .u8))], []⟩, pontageref6_AppendUint64 K0⟩
theorem ok160 : ConOk Tryz.prog 160 pontageref6_AppendUint64C := mkOk (n := 160) (k := 60) (hs := [(159, .con pontageref6_AppendUint256C)]) (A := fun _ _ => none) ⟨ok159, trivial⟩ (by intro x; kernel_rfl)
noncomputable def pontageref24_EncodeC : Con := ⟨⟨[.pl Y_api_Message], []⟩, ⟨[.pl (.sl (.int .u8))], []⟩, pontageref24_Encode K0⟩
theorem ok147 : ConOk Tryz.prog 147 pontageref24_EncodeC := mkOk (n := 147) (k := 60) (hs := [(159, .con pontageref6_AppendUint256C), (160, .con pontageref6_AppendUint64C)]) (A := fun _ _ => none) ⟨ok159, ok160, trivial⟩ (by intro x; kernel_rfl)
noncomputable def pontageref24_LeafC : Con := ⟨⟨[.pl Y_api_Message], []⟩, ⟨[.pl (.arr 32 (.int .u8))], []⟩, pontageref24_Leaf K0⟩
theorem ok122 : ConOk Tryz.prog 122 pontageref24_LeafC := mkOk (n := 122) (k := 60) (hs := [(146, .con pontageref7_LeafC), (147, .con pontageref24_EncodeC)]) (A := fun _ _ => none) ⟨ok146, ok147, trivial⟩ (by intro x; kernel_rfl)
noncomputable def pontageref24_LeavesC : Con := ⟨⟨[.pl (.sl Y_api_Message), .pl (.int .i64)], []⟩, ⟨[.pl (.sl (.arr 32 (.int .u8)))], []⟩, pontageref24_Leaves K0⟩
theorem ok125 : ConOk Tryz.prog 125 pontageref24_LeavesC := mkOk (n := 125) (k := 60) (hs := [(122, .con pontageref24_LeafC)]) (A := annL [([125], 0, .tmpl ⟨(.pl (.sl Y_api_Message) :: .pl (.int .i64) :: dd 3 (.whole 0 :: .pl (.int .i64) :: dd 14 [])), [.row (.arr 32 (.int .u8))]⟩)]) ⟨ok122, trivial⟩ (by intro x; kernel_rfl)
noncomputable def pontageref8_SplitPointC : Con := ⟨⟨[.pl (.int .i64)], []⟩, ⟨[.pl (.int .i64)], []⟩, pontageref8_SplitPoint K0⟩
theorem ok148 : ConOk Tryz.prog 148 pontageref8_SplitPointC := mkOk (n := 148) (k := 60) (hs := []) (A := annL [([148], 0, .tmpl ⟨(.pl (.int .i64) :: dd 2 (.pl (.int .i64) :: dd 8 [])), []⟩)]) trivial (by intro x; kernel_rfl)
noncomputable def pontageref7_NodeC : Con := ⟨⟨[.pl (.arr 32 (.int .u8)), .pl (.arr 32 (.int .u8))], []⟩, ⟨[.pl (.arr 32 (.int .u8))], []⟩, pontageref7_Node K0⟩
theorem ok152 : ConOk Tryz.prog 152 pontageref7_NodeC := mkOk (n := 152) (k := 60) (hs := [(151, .con pontageref7_SumC)]) (A := fun _ _ => none) ⟨ok151, trivial⟩ (by intro x; kernel_rfl)
noncomputable def pontageref8_RootOfC : Con := ⟨⟨[.pl (.sl (.arr 32 (.int .u8)))], []⟩, ⟨[.pl (.arr 32 (.int .u8))], []⟩, pontageref8_RootOf K0⟩
noncomputable def pontageref8_RootOfK (k0 : Nat) : Con := ⟨⟨[.pl (.sl (.arr 32 (.int .u8)))], []⟩, ⟨[.pl (.arr 32 (.int .u8))], []⟩, pontageref8_RootOf_rec K0 k0⟩
theorem okr134 : ∀ k0, ConOk Tryz.prog 134 (pontageref8_RootOfK k0)
  | 0 => fun x y h => by cases h
  | k0 + 1 => mkOk (n := 134) (k := 60) (hs := [(134, .con (pontageref8_RootOfK k0)), (148, .con pontageref8_SplitPointC), (151, .con pontageref7_SumC), (152, .con pontageref7_NodeC)]) (A := fun _ _ => none) ⟨(okr134 k0), ok148, ok151, ok152, trivial⟩ (by intro x; kernel_rfl)
theorem ok134 : ConOk Tryz.prog 134 pontageref8_RootOfC := okr134 K0
noncomputable def pontageref24_RootC : Con := ⟨⟨[.pl (.sl Y_api_Message), .pl (.int .i64)], []⟩, ⟨[.pl (.arr 32 (.int .u8)), .pl .bool], []⟩, pontageref24_Root K0⟩
theorem ok104 : ConOk Tryz.prog 104 pontageref24_RootC := mkOk (n := 104) (k := 60) (hs := [(125, .con pontageref24_LeavesC), (134, .con pontageref8_RootOfC)]) (A := annL [([1000000, 104], 4, .join ⟨(.pl (.sl Y_api_Message) :: .pl (.int .i64) :: dd 2 (.ptr 0 [] :: dd 14 [])), [.box (.arr 32 (.int .u8)) (.pl (.arr 32 (.int .u8)))]⟩)]) ⟨ok125, ok134, trivial⟩ (by intro x; kernel_rfl)
noncomputable def pontageref28_Machine_sendC : Con := ⟨⟨[.ptr 0 [], .pl (.int .u64), .pl u256], H_pontageref28_Machine⟩, ⟨[.pl Y_api_Message], H_pontageref28_Machine⟩, pontageref28_Machine_send K0⟩
theorem ok70 : ConOk Tryz.prog 70 pontageref28_Machine_sendC := mkOk (n := 70) (k := 140) (hs := [(104, .con pontageref24_RootC)]) (A := fun _ _ => none) ⟨ok104, trivial⟩ (by intro x; kernel_rfl)
noncomputable def pontageref28_Machine_txC : Con := ⟨⟨[.ptr 0 [], .pl Y_api_Transaction], H_pontageref28_Machine⟩, ⟨[.pl Y_api_Receipt], H_pontageref28_Machine⟩, pontageref28_Machine_tx K0⟩
theorem ok47 : ConOk Tryz.prog 47 pontageref28_Machine_txC := mkOk (n := 47) (k := 140) (hs := [(56, .con pontageref1_IsZeroC), (62, .con pontageref28_Machine_checkC), (63, .con pontageref23_ComputeC), (64, .con pontageref21_AddUnitsC), (65, .con pontageref11_Ledger_PayVaultC), (66, .con pontageref11_Ledger_IncrementNonceC), (67, .con pontageref13_AddC), (68, .con pontageref11_Ledger_TransferC), (69, .con pontageref11_Ledger_WithdrawC), (70, .con pontageref28_Machine_sendC)]) (A := annL [([1000000, 47], 22, .join ⟨(.ptr 0 [] :: dd 2 (.ptr 8 [] :: .ptr 9 [] :: dd 4 (.ptr 11 [] :: dd 171 (.ptr 0 [] :: .ptr 1 [] :: .ptr 4 [] :: [])))), [.box Y_pontageref28_Machine ((.pair (.pl (.int .u64)) ((.pair (.pl Y_api_Params) ((.pair (.pl Y_api_Block) ((.pair (.pl (.int .u64)) ((.pair (.pl Y_api_Pricer) ((.pair (.ptr 1 []) ((.pair (.whole 3) ((.pair (.ptr 4 []) (.pl .nil))))))))))))))))), .box Y_pontageref11_Ledger ((.pair (.whole 2) (.pl (.cons (.arr 4 u256) .nil)))), .row Y_api_Account, .row Y_api_Message, .box Y_pontageref25_Escrow ((.pair (.pl u256) ((.pair (.whole 5) ((.pair (.whole 6) ((.pair (.whole 7) (.pl .nil))))))))), .row (.arr 32 (.int .u8)), .row (.int .u64), .row Y_api_Payment, .box Y_api_Transaction (.pl Y_api_Transaction), .box Y_api_Receipt ((.pair (.pl (.int .i64)) ((.pair (.pl (.int .i64)) ((.pair (.pl Y_api_Charge) ((.pair (.pl u256) ((.pair (.pl u256) ((.pair (.pl (.int .u64)) ((.pair (.pl u256) ((.pair (.pl u256) ((.pair (.whole 10) (.pl .nil))))))))))))))))))), .row Y_api_Message, .box Y_api_Receipt ((.pair (.pl (.int .i64)) ((.pair (.pl (.int .i64)) ((.pair (.pl Y_api_Charge) ((.pair (.pl u256) ((.pair (.pl u256) ((.pair (.pl (.int .u64)) ((.pair (.pl u256) ((.pair (.pl u256) ((.pair (.whole 12) (.pl .nil))))))))))))))))))), .row Y_api_Message]⟩)]) ⟨ok56, ok62, ok63, ok64, ok65, ok66, ok67, ok68, ok69, ok70, trivial⟩ (by intro x; kernel_rfl)
noncomputable def pontageref20_SumC : Con := ⟨⟨[.pl (.sl Y_api_Payment)], []⟩, ⟨[.pl u256, .pl (.int .i64)], []⟩, pontageref20_Sum K0⟩
theorem ok73 : ConOk Tryz.prog 73 pontageref20_SumC := mkOk (n := 73) (k := 60) (hs := [(34, .con pontageref1_AddC), (35, .con pontageref1_FromUint256C), (40, .con pontageref1_CheckedC)]) (A := annL [([73], 0, .tmpl ⟨(.pl (.sl Y_api_Payment) :: dd 1 (.ptr 0 [] :: dd 1 (.pl (.sl (.int .i64)) :: .pl (.int .i64) :: dd 18 []))), [.box u256 (.pl u256)]⟩)]) ⟨ok34, ok35, ok40, trivial⟩ (by intro x; kernel_rfl)
noncomputable def pontageref16_FindC : Con := ⟨⟨[.pl (.sl Y_api_Poster), .pl (.int .u64)], []⟩, ⟨[.pl (.int .i64)], []⟩, pontageref16_Find K0⟩
theorem ok135 : ConOk Tryz.prog 135 pontageref16_FindC := mkOk (n := 135) (k := 60) (hs := []) (A := annL [([135], 0, .tmpl ⟨(.pl (.sl Y_api_Poster) :: .pl (.int .u64) :: dd 3 (.pl (.int .i64) :: dd 14 [])), []⟩)]) trivial (by intro x; kernel_rfl)
noncomputable def pontageref1_BitLenC : Con := ⟨⟨[.pl u256], []⟩, ⟨[.pl (.int .i64)], []⟩, pontageref1_BitLen K0⟩
theorem ok136 : ConOk Tryz.prog 136 pontageref1_BitLenC := mkOk (n := 136) (k := 60) (hs := []) (A := annL [([136], 0, .tmpl ⟨(dd 1 (.ptr 0 [] :: dd 1 (.pl (.int .i64) :: .pl (.int .i64) :: dd 17 []))), [.box u256 (.pl u256)]⟩)]) trivial (by intro x; kernel_rfl)
noncomputable def pontageref21_checkC : Con := ⟨⟨[.pl Y_api_Pricer, .pl Y_api_Params, .pl Y_api_Message, .pl (.int .u64)], []⟩, ⟨[.pl (.int .i64)], []⟩, pontageref21_check K0⟩
theorem ok105 : ConOk Tryz.prog 105 pontageref21_checkC := mkOk (n := 105) (k := 60) (hs := [(99, .con pontageref21_ValidC), (116, .con pontageref12_ValidC), (135, .con pontageref16_FindC), (136, .con pontageref1_BitLenC)]) (A := annL [([1000000, 105], 10, .join ⟨(dd 6 (.ptr 0 [] :: dd 29 [])), [.box Y_api_Message (.pl Y_api_Message)]⟩)]) ⟨ok99, ok116, ok135, ok136, trivial⟩ (by intro x; kernel_rfl)
noncomputable def pontageref18_AllocateC : Con := ⟨⟨[.pl (.int .u64), .pl (.int .u64), .pl (.int .u64), .pl (.int .u64)], []⟩, ⟨[.pl (.int .u64), .pl (.int .i64)], []⟩, pontageref18_Allocate K0⟩
theorem ok106 : ConOk Tryz.prog 106 pontageref18_AllocateC := mkOk (n := 106) (k := 60) (hs := [(24, .con pontageref1_ToUint256C), (84, .con pontageref1_FromUint64C), (88, .con pontageref1_MulC), (98, .con pontageref1_DivC)]) (A := annL [([1000000, 106], 4, .join ⟨(.pl (.int .u64) :: .pl (.int .u64) :: .pl (.int .u64) :: .pl (.int .u64) :: dd 38 []), []⟩)]) ⟨ok24, ok84, ok88, ok98, trivial⟩ (by intro x; kernel_rfl)
noncomputable def pontageref1_Mul256C : Con := ⟨⟨[.pl u256, .pl u256], []⟩, ⟨[.pl u256, .pl (.int .i64)], []⟩, pontageref1_Mul256 K0⟩
theorem ok107 : ConOk Tryz.prog 107 pontageref1_Mul256C := mkOk (n := 107) (k := 60) (hs := [(35, .con pontageref1_FromUint256C), (40, .con pontageref1_CheckedC), (88, .con pontageref1_MulC)]) (A := fun _ _ => none) ⟨ok35, ok40, ok88, trivial⟩ (by intro x; kernel_rfl)
noncomputable def pontageref16_AccrueC : Con := ⟨⟨[.pl (.sl Y_api_Poster), .pl (.int .u64), .pl u256, .pl u256, .pl (.int .u64)], []⟩, ⟨[.pl (.sl Y_api_Poster), .pl (.int .i64)], []⟩, pontageref16_Accrue K0⟩
theorem ok108 : ConOk Tryz.prog 108 pontageref16_AccrueC := mkOk (n := 108) (k := 60) (hs := [(24, .con pontageref1_ToUint256C), (34, .con pontageref1_AddC), (35, .con pontageref1_FromUint256C), (56, .con pontageref1_IsZeroC), (60, .con pontageref1_FitsC), (132, .con pontageref16_ValidC), (135, .con pontageref16_FindC)]) (A := annL [([1000000, 108], 4, .join ⟨(.pl (.sl Y_api_Poster) :: .pl (.int .u64) :: dd 2 (.pl (.int .u64) :: dd 2 (.ptr 0 [] :: .ptr 1 [] :: dd 97 []))), [.box u256 (.pl u256), .box u256 (.pl u256)]⟩)]) ⟨ok24, ok34, ok35, ok56, ok60, ok132, ok135, trivial⟩ (by intro x; kernel_rfl)
noncomputable def pontageref17_SortedC : Con := ⟨⟨[.pl (.sl Y_api_Poster)], []⟩, ⟨[.pl (.sl Y_api_Poster)], []⟩, pontageref17_Sorted K0⟩
theorem ok137 : ConOk Tryz.prog 137 pontageref17_SortedC := mkOk (n := 137) (k := 60) (hs := []) (A := annL [([1000000, 137], 10, .join ⟨(.pl (.sl Y_api_Poster) :: dd 2 (.whole 0 :: .pl (.int .i64) :: .pl (.int .i64) :: dd 76 [])), [.row Y_api_Poster]⟩), ([137], 0, .tmpl ⟨(.pl (.sl Y_api_Poster) :: dd 2 (.whole 0 :: .pl (.int .i64) :: dd 77 [])), [.row Y_api_Poster]⟩), ([137], 2, .tmpl ⟨(.pl (.sl Y_api_Poster) :: dd 2 (.whole 0 :: .pl (.int .i64) :: .pl (.int .i64) :: dd 76 [])), [.row Y_api_Poster]⟩)]) trivial (by intro x; kernel_rfl)
noncomputable def pontageref20_PlanC : Con := ⟨⟨[.pl (.sl Y_api_Poster), .pl u256], []⟩, ⟨[.pl (.sl Y_api_Payment), .pl (.int .i64)], []⟩, pontageref20_Plan K0⟩
theorem ok109 : ConOk Tryz.prog 109 pontageref20_PlanC := mkOk (n := 109) (k := 60) (hs := [(24, .con pontageref1_ToUint256C), (35, .con pontageref1_FromUint256C), (83, .con pontageref1_MinC), (97, .fresh pontageref1_SubC), (132, .con pontageref16_ValidC), (137, .con pontageref17_SortedC)]) (A := annL [([1000000, 109], 10, .join ⟨(dd 6 (.whole 0 :: .pl (.sl Y_api_Poster) :: .pl (.sl (.int .i64)) :: .pl (.int .i64) :: dd 13 (.pl (.sl (.int .i64)) :: .pl (.int .i64) :: .pl .bool :: dd 26 []))), [.row Y_api_Payment]⟩), ([109], 0, .tmpl ⟨(dd 6 (.whole 0 :: .pl (.sl Y_api_Poster) :: .pl (.sl (.int .i64)) :: .pl (.int .i64) :: dd 42 [])), [.row Y_api_Payment]⟩)]) ⟨ok24, ok35, ok83, okf97, ok132, ok137, trivial⟩ (by intro x; kernel_rfl)
noncomputable def pontageref1_Add256C : Con := ⟨⟨[.pl u256, .pl u256], []⟩, ⟨[.pl u256, .pl (.int .i64)], []⟩, pontageref1_Add256 K0⟩
theorem ok119 : ConOk Tryz.prog 119 pontageref1_Add256C := mkOk (n := 119) (k := 60) (hs := [(34, .con pontageref1_AddC), (35, .con pontageref1_FromUint256C), (40, .con pontageref1_CheckedC)]) (A := fun _ _ => none) ⟨ok34, ok35, ok40, trivial⟩ (by intro x; kernel_rfl)
noncomputable def pontageref16_SettleC : Con := ⟨⟨[.pl (.sl Y_api_Poster), .pl (.int .u64), .pl u256], []⟩, ⟨[.pl (.sl Y_api_Poster), .pl (.int .i64)], []⟩, pontageref16_Settle K0⟩
theorem ok138 : ConOk Tryz.prog 138 pontageref16_SettleC := mkOk (n := 138) (k := 60) (hs := [(56, .con pontageref1_IsZeroC), (111, .con pontageref1_Sub256C), (119, .con pontageref1_Add256C), (132, .con pontageref16_ValidC), (135, .con pontageref16_FindC)]) (A := fun _ _ => none) ⟨ok56, ok111, ok119, ok132, ok135, trivial⟩ (by intro x; kernel_rfl)
noncomputable def pontageref20_ApplyC : Con := ⟨⟨[.pl (.sl Y_api_Poster), .pl (.sl Y_api_Payment)], []⟩, ⟨[.pl (.sl Y_api_Poster), .pl (.int .i64)], []⟩, pontageref20_Apply K0⟩
theorem ok110 : ConOk Tryz.prog 110 pontageref20_ApplyC := mkOk (n := 110) (k := 60) (hs := [(138, .con pontageref16_SettleC)]) (A := annL [([110], 0, .tmpl ⟨(dd 1 (.pl (.sl Y_api_Payment) :: dd 4 (.pl (.sl Y_api_Poster) :: .pl (.int .i64) :: dd 31 []))), []⟩)]) ⟨ok138, trivial⟩ (by intro x; kernel_rfl)
noncomputable def pontageref16_TotalDueC : Con := ⟨⟨[.pl (.sl Y_api_Poster)], []⟩, ⟨[.pl u256, .pl (.int .i64)], []⟩, pontageref16_TotalDue K0⟩
theorem ok112 : ConOk Tryz.prog 112 pontageref16_TotalDueC := mkOk (n := 112) (k := 60) (hs := [(34, .con pontageref1_AddC), (35, .con pontageref1_FromUint256C), (40, .con pontageref1_CheckedC), (132, .con pontageref16_ValidC)]) (A := annL [([112], 0, .tmpl ⟨(.pl (.sl Y_api_Poster) :: dd 1 (.ptr 0 [] :: dd 1 (.pl (.sl (.int .i64)) :: .pl (.int .i64) :: dd 22 []))), [.box u256 (.pl u256)]⟩)]) ⟨ok34, ok35, ok40, ok132, trivial⟩ (by intro x; kernel_rfl)
noncomputable def pontageref3_CheckedC : Con := ⟨⟨[.pl Y_pontageref3_SignedBig], []⟩, ⟨[.pl Y_api_Int256, .pl (.int .i64)], []⟩, pontageref3_Checked K0⟩
theorem ok139 : ConOk Tryz.prog 139 pontageref3_CheckedC := mkOk (n := 139) (k := 60) (hs := [(40, .con pontageref1_CheckedC)]) (A := fun _ _ => none) ⟨ok40, trivial⟩ (by intro x; kernel_rfl)
noncomputable def pontageref3_signC : Con := ⟨⟨[.pl .bool, .pl (.sl (.int .i64))], []⟩, ⟨[.pl Y_pontageref3_SignedBig], []⟩, pontageref3_sign K0⟩
theorem ok141 : ConOk Tryz.prog 141 pontageref3_signC := mkOk (n := 141) (k := 60) (hs := []) (A := fun _ _ => none) trivial (by intro x; kernel_rfl)
noncomputable def pontageref3_AddC : Con := ⟨⟨[.pl Y_pontageref3_SignedBig, .pl Y_pontageref3_SignedBig], []⟩, ⟨[.pl Y_pontageref3_SignedBig], []⟩, pontageref3_Add K0⟩
theorem ok140 : ConOk Tryz.prog 140 pontageref3_AddC := mkOk (n := 140) (k := 60) (hs := [(34, .con pontageref1_AddC), (36, .con pontageref1_CmpC), (97, .fresh pontageref1_SubC), (141, .con pontageref3_signC)]) (A := fun _ _ => none) ⟨ok34, ok36, okf97, ok141, trivial⟩ (by intro x; kernel_rfl)
noncomputable def pontageref3_DiffC : Con := ⟨⟨[.pl u256, .pl u256], []⟩, ⟨[.pl Y_api_Int256], []⟩, pontageref3_Diff K0⟩
theorem ok113 : ConOk Tryz.prog 113 pontageref3_DiffC := mkOk (n := 113) (k := 60) (hs := [(35, .con pontageref1_FromUint256C), (139, .con pontageref3_CheckedC), (140, .con pontageref3_AddC), (141, .con pontageref3_signC)]) (A := fun _ _ => none) ⟨ok35, ok139, ok140, ok141, trivial⟩ (by intro x; kernel_rfl)
noncomputable def pontageref3_DivFloorC : Con := ⟨⟨[.pl Y_pontageref3_SignedBig, .pl (.sl (.int .i64))], []⟩, ⟨[.pl Y_pontageref3_SignedBig], []⟩, pontageref3_DivFloor K0⟩
theorem ok153 : ConOk Tryz.prog 153 pontageref3_DivFloorC := mkOk (n := 153) (k := 60) (hs := [(34, .con pontageref1_AddC), (84, .con pontageref1_FromUint64C), (98, .con pontageref1_DivC), (141, .con pontageref3_signC)]) (A := annL [([1000000, 153], 4, .join ⟨(dd 2 (.ptr 0 [] :: dd 1 (.ptr 1 [] :: .pl (.sl (.int .i64)) :: dd 14 (.pl .bool :: dd 7 [])))), [.box Y_pontageref3_SignedBig (.pl Y_pontageref3_SignedBig), .box Y_pontageref3_SignedBig (.pl Y_pontageref3_SignedBig)]⟩)]) ⟨ok34, ok84, ok98, ok141, trivial⟩ (by intro x; kernel_rfl)
noncomputable def pontageref3_NegateC : Con := ⟨⟨[.pl Y_pontageref3_SignedBig], []⟩, ⟨[.pl Y_pontageref3_SignedBig], []⟩, pontageref3_Negate K0⟩
theorem ok154 : ConOk Tryz.prog 154 pontageref3_NegateC := mkOk (n := 154) (k := 60) (hs := [(141, .con pontageref3_signC)]) (A := fun _ _ => none) ⟨ok141, trivial⟩ (by intro x; kernel_rfl)
noncomputable def pontageref3_FromInt256C : Con := ⟨⟨[.pl Y_api_Int256], []⟩, ⟨[.pl Y_pontageref3_SignedBig], []⟩, pontageref3_FromInt256 K0⟩
theorem ok155 : ConOk Tryz.prog 155 pontageref3_FromInt256C := mkOk (n := 155) (k := 60) (hs := [(35, .con pontageref1_FromUint256C), (141, .con pontageref3_signC)]) (A := fun _ _ => none) ⟨ok35, ok141, trivial⟩ (by intro x; kernel_rfl)
noncomputable def pontageref3_MulC : Con := ⟨⟨[.pl Y_pontageref3_SignedBig, .pl Y_pontageref3_SignedBig], []⟩, ⟨[.pl Y_pontageref3_SignedBig], []⟩, pontageref3_Mul K0⟩
theorem ok156 : ConOk Tryz.prog 156 pontageref3_MulC := mkOk (n := 156) (k := 60) (hs := [(88, .con pontageref1_MulC), (141, .con pontageref3_signC)]) (A := fun _ _ => none) ⟨ok88, ok141, trivial⟩ (by intro x; kernel_rfl)
noncomputable def pontageref19_DeltaC : Con := ⟨⟨[.pl Y_api_Int256, .pl Y_api_Int256, .pl (.int .u64), .pl Y_api_Params], []⟩, ⟨[.pl Y_api_Int256, .pl (.int .i64)], []⟩, pontageref19_Delta K0⟩
theorem ok142 : ConOk Tryz.prog 142 pontageref19_DeltaC := mkOk (n := 142) (k := 60) (hs := [(34, .con pontageref1_AddC), (60, .con pontageref1_FitsC), (84, .con pontageref1_FromUint64C), (98, .con pontageref1_DivC), (116, .con pontageref12_ValidC), (133, .con pontageref3_ValidC), (139, .con pontageref3_CheckedC), (140, .con pontageref3_AddC), (153, .con pontageref3_DivFloorC), (154, .con pontageref3_NegateC), (155, .con pontageref3_FromInt256C), (156, .con pontageref3_MulC)]) (A := annL [([1000000, 142], 13, .join ⟨(dd 2 (.pl (.int .u64) :: dd 4 (.ptr 0 [] :: .ptr 1 [] :: dd 5 (.ptr 2 [] :: dd 81 [])))), [.box Y_api_Params (.pl Y_api_Params), .box Y_api_Int256 (.pl Y_api_Int256), .box Y_pontageref3_SignedBig (.pl Y_pontageref3_SignedBig)]⟩), ([1000000, 142], 6, .join ⟨(dd 2 (.pl (.int .u64) :: dd 1 (.ptr 0 [] :: .ptr 1 [] :: dd 1 (.ptr 2 [] :: .ptr 3 [] :: dd 87 [])))), [.box Y_api_Int256 (.pl Y_api_Int256), .box Y_api_Int256 (.pl Y_api_Int256), .box Y_api_Params (.pl Y_api_Params), .box Y_api_Int256 (.pl Y_api_Int256)]⟩)]) ⟨ok34, ok60, ok84, ok98, ok116, ok133, ok139, ok140, ok153, ok154, ok155, ok156, trivial⟩ (by intro x; kernel_rfl)
noncomputable def pontageref3_AddClampedC : Con := ⟨⟨[.pl u256, .pl Y_api_Int256], []⟩, ⟨[.pl u256, .pl (.int .i64)], []⟩, pontageref3_AddClamped K0⟩
theorem ok143 : ConOk Tryz.prog 143 pontageref3_AddClampedC := mkOk (n := 143) (k := 60) (hs := [(35, .con pontageref1_FromUint256C), (40, .con pontageref1_CheckedC), (133, .con pontageref3_ValidC), (140, .con pontageref3_AddC), (141, .con pontageref3_signC), (155, .con pontageref3_FromInt256C)]) (A := fun _ _ => none) ⟨ok35, ok40, ok133, ok140, ok141, ok155, trivial⟩ (by intro x; kernel_rfl)
noncomputable def pontageref19_NextC : Con := ⟨⟨[.pl u256, .pl Y_api_Int256, .pl Y_api_Int256, .pl (.int .u64), .pl Y_api_Params], []⟩, ⟨[.pl u256, .pl (.int .i64)], []⟩, pontageref19_Next K0⟩
theorem ok114 : ConOk Tryz.prog 114 pontageref19_NextC := mkOk (n := 114) (k := 60) (hs := [(116, .con pontageref12_ValidC), (133, .con pontageref3_ValidC), (142, .con pontageref19_DeltaC), (143, .con pontageref3_AddClampedC)]) (A := annL [([1000000, 114], 6, .join ⟨(dd 3 (.pl (.int .u64) :: dd 1 (.ptr 0 [] :: .ptr 1 [] :: .ptr 2 [] :: dd 1 (.ptr 3 [] :: .ptr 4 [] :: dd 36 [])))), [.box u256 (.pl u256), .box Y_api_Int256 (.pl Y_api_Int256), .box Y_api_Int256 (.pl Y_api_Int256), .box Y_api_Params (.pl Y_api_Params), .box u256 (.pl u256)]⟩)]) ⟨ok116, ok133, ok142, ok143, trivial⟩ (by intro x; kernel_rfl)
noncomputable def pontageref21_ReportC : Con := ⟨⟨[.pl Y_api_Pricer, .pl Y_api_Params, .pl u256, .pl Y_api_Message, .pl (.int .u64)], []⟩, ⟨[.pl Y_api_Pricer, .pl Y_pontageref21_Outcome, .pl (.int .i64)], []⟩, pontageref21_Report K0⟩
theorem ok71 : ConOk Tryz.prog 71 pontageref21_ReportC := mkOk (n := 71) (k := 60) (hs := [(73, .con pontageref20_SumC), (105, .con pontageref21_checkC), (106, .con pontageref18_AllocateC), (107, .con pontageref1_Mul256C), (108, .con pontageref16_AccrueC), (109, .con pontageref20_PlanC), (110, .con pontageref20_ApplyC), (111, .con pontageref1_Sub256C), (112, .con pontageref16_TotalDueC), (113, .con pontageref3_DiffC), (114, .con pontageref19_NextC)]) (A := annL [([1000000, 71], 11, .join ⟨(dd 5 (.ptr 0 [] :: .ptr 1 [] :: .ptr 2 [] :: .ptr 3 [] :: dd 1 (.ptr 4 [] :: .ptr 5 [] :: dd 2 (.ptr 6 [] :: .ptr 7 [] :: dd 153 [])))), [.box Y_api_Pricer (.pl Y_api_Pricer), .box Y_api_Params (.pl Y_api_Params), .box u256 (.pl u256), .box Y_api_Message (.pl Y_api_Message), .box Y_api_Pricer (.pl Y_api_Pricer), .box Y_pontageref21_Outcome (.pl Y_pontageref21_Outcome), .box Y_pontageref21_Outcome (.pl Y_pontageref21_Outcome), .box u256 (.pl u256)]⟩), ([1000000, 71], 30, .join ⟨(dd 5 (.ptr 0 [] :: dd 2 (.ptr 1 [] :: dd 1 (.ptr 2 [] :: .ptr 3 [] :: dd 2 (.ptr 4 [] :: dd 2 (.pl (.sl Y_api_Poster) :: dd 151 [])))))), [.box Y_api_Pricer (.pl Y_api_Pricer), .box Y_api_Message (.pl Y_api_Message), .box Y_api_Pricer (.pl Y_api_Pricer), .box Y_pontageref21_Outcome (.pl Y_pontageref21_Outcome), .box Y_pontageref21_Outcome (.pl Y_pontageref21_Outcome)]⟩)]) ⟨ok73, ok105, ok106, ok107, ok108, ok109, ok110, ok111, ok112, ok113, ok114, trivial⟩ (by intro x; kernel_rfl)
noncomputable def pontageref11_Ledger_VaultC : Con := ⟨⟨[.bp Y_pontageref11_Ledger, .pl (.int .i64)], []⟩, ⟨[.pl u256], []⟩, pontageref11_Ledger_Vault K0⟩
theorem ok72 : ConOk Tryz.prog 72 pontageref11_Ledger_VaultC := mkOk (n := 72) (k := 140) (hs := []) (A := fun _ _ => none) trivial (by intro x; kernel_rfl)
noncomputable def pontageref11_Ledger_WithdrawVaultC : Con := ⟨⟨[.ptr 0 [], .pl (.int .i64), .pl u256], H_pontageref11_Ledger⟩, ⟨[.pl (.int .i64)], H_pontageref11_Ledger⟩, pontageref11_Ledger_WithdrawVault K0⟩
theorem ok74 : ConOk Tryz.prog 74 pontageref11_Ledger_WithdrawVaultC := mkOk (n := 74) (k := 140) (hs := [(111, .con pontageref1_Sub256C)]) (A := annL [([1000000, 74], 4, .join ⟨(.ptr 0 [] :: .pl (.int .i64) :: dd 3 (.ptr 2 [] :: dd 30 (.ptr 0 [] :: []))), [.box Y_pontageref11_Ledger ((.pair (.whole 1) (.pl (.cons (.arr 4 u256) .nil)))), .row Y_api_Account, .box u256 (.pl u256)]⟩)]) ⟨ok111, trivial⟩ (by intro x; kernel_rfl)
noncomputable def pontageref28_Machine_reportC : Con := ⟨⟨[.ptr 0 [], .pl Y_api_Message], H_pontageref28_Machine⟩, ⟨[.pl Y_api_Receipt], H_pontageref28_Machine⟩, pontageref28_Machine_report K0⟩
theorem ok48 : ConOk Tryz.prog 48 pontageref28_Machine_reportC := mkOk (n := 48) (k := 140) (hs := [(70, .con pontageref28_Machine_sendC), (71, .con pontageref21_ReportC), (72, .con pontageref11_Ledger_VaultC), (73, .con pontageref20_SumC), (74, .con pontageref11_Ledger_WithdrawVaultC)]) (A := annL [([48], 0, .tmpl ⟨(.ptr 0 [] :: dd 3 (.ptr 8 [] :: dd 1 (.ptr 10 [] :: dd 1 (.ptr 11 [] :: .pl (.int .i64) :: dd 82 (.ptr 0 [] :: .ptr 1 [] :: .ptr 4 [] :: []))))), [.box Y_pontageref28_Machine ((.pair (.pl (.int .u64)) ((.pair (.pl Y_api_Params) ((.pair (.pl Y_api_Block) ((.pair (.pl (.int .u64)) ((.pair (.pl Y_api_Pricer) ((.pair (.ptr 1 []) ((.pair (.whole 3) ((.pair (.ptr 4 []) (.pl .nil))))))))))))))))), .box Y_pontageref11_Ledger ((.pair (.whole 2) (.pl (.cons (.arr 4 u256) .nil)))), .row Y_api_Account, .row Y_api_Message, .box Y_pontageref25_Escrow ((.pair (.pl u256) ((.pair (.whole 5) ((.pair (.whole 6) ((.pair (.whole 7) (.pl .nil))))))))), .row (.arr 32 (.int .u8)), .row (.int .u64), .row Y_api_Payment, .box Y_api_Receipt ((.pair (.pl (.int .i64)) ((.pair (.pl (.int .i64)) ((.pair (.pl Y_api_Charge) ((.pair (.pl u256) ((.pair (.pl u256) ((.pair (.pl (.int .u64)) ((.pair (.pl u256) ((.pair (.pl u256) ((.pair (.whole 9) (.pl .nil))))))))))))))))))), .row Y_api_Message, .box Y_pontageref21_Outcome (.pl Y_pontageref21_Outcome), .box Y_api_Receipt ((.pair (.pl (.int .i64)) ((.pair (.pl (.int .i64)) ((.pair (.pl Y_api_Charge) ((.pair (.pl u256) ((.pair (.pl u256) ((.pair (.pl (.int .u64)) ((.pair (.pl u256) ((.pair (.pl u256) ((.pair (.whole 12) (.pl .nil))))))))))))))))))), .row Y_api_Message]⟩)]) ⟨ok70, ok71, ok72, ok73, ok74, trivial⟩ (by intro x; kernel_rfl)
noncomputable def pontageref13_DrainC : Con := ⟨⟨[.pl (.int .u64), .pl (.int .u64), .pl (.int .u64)], []⟩, ⟨[.pl (.int .u64)], []⟩, pontageref13_Drain K0⟩
theorem ok75 : ConOk Tryz.prog 75 pontageref13_DrainC := mkOk (n := 75) (k := 60) (hs := [(115, .con pontageref13_restC)]) (A := fun _ _ => none) ⟨ok115, trivial⟩ (by intro x; kernel_rfl)
noncomputable def pontageref15_NextC : Con := ⟨⟨[.pl Y_api_Block, .pl (.int .u64), .pl (.int .u64), .pl Y_api_Params], []⟩, ⟨[.pl Y_api_Block, .pl (.int .i64)], []⟩, pontageref15_Next K0⟩
theorem ok76 : ConOk Tryz.prog 76 pontageref15_NextC := mkOk (n := 76) (k := 60) (hs := [(61, .con pontageref14_FeeC)]) (A := annL [([1000000, 76], 4, .join ⟨(dd 1 (.pl (.int .u64) :: .pl (.int .u64) :: dd 1 (.ptr 0 [] :: dd 2 (.ptr 1 [] :: .ptr 2 [] :: dd 43 [])))), [.box Y_api_Block (.pl Y_api_Block), .box Y_api_Params (.pl Y_api_Params), .box Y_api_Block (.pl Y_api_Block)]⟩)]) ⟨ok61, trivial⟩ (by intro x; kernel_rfl)
noncomputable def pontageref12_allC : Con := ⟨⟨[.pl Y_api_Params], []⟩, ⟨[.pl (.arr 12 u256)], []⟩, pontageref12_all K0⟩
theorem ok117 : ConOk Tryz.prog 117 pontageref12_allC := mkOk (n := 117) (k := 60) (hs := []) (A := fun _ _ => none) trivial (by intro x; kernel_rfl)
noncomputable def pontageref12_SetC : Con := ⟨⟨[.pl Y_api_Params, .pl (.int .i64), .pl u256], []⟩, ⟨[.pl Y_api_Params, .pl (.int .i64)], []⟩, pontageref12_Set K0⟩
theorem ok77 : ConOk Tryz.prog 77 pontageref12_SetC := mkOk (n := 77) (k := 60) (hs := [(102, .con pontageref1_Uint64C), (116, .con pontageref12_ValidC), (117, .con pontageref12_allC)]) (A := annL [([1000000, 77], 4, .join ⟨(dd 1 (.pl (.int .i64) :: dd 1 (.ptr 0 [] :: dd 1 (.ptr 1 [] :: .ptr 2 [] :: dd 76 [])))), [.box Y_api_Params (.pl Y_api_Params), .box u256 (.pl u256), .box Y_api_Params (.pl Y_api_Params)]⟩), ([77], 0, .tmpl ⟨(dd 6 (.ptr 0 [] :: dd 1 (.ptr 1 [] :: .pl (.int .i64) :: dd 73 []))), [.box Y_api_Params (.pl Y_api_Params), .box (.arr 12 u256) (.pl (.arr 12 u256))]⟩)]) ⟨ok102, ok116, ok117, trivial⟩ (by intro x; kernel_rfl)
noncomputable def pontageref16_AddC : Con := ⟨⟨[.pl (.sl Y_api_Poster), .pl (.int .u64)], []⟩, ⟨[.pl (.sl Y_api_Poster), .pl (.int .i64)], []⟩, pontageref16_Add K0⟩
theorem ok118 : ConOk Tryz.prog 118 pontageref16_AddC := mkOk (n := 118) (k := 60) (hs := [(132, .con pontageref16_ValidC), (135, .con pontageref16_FindC)]) (A := annL [([1000000, 118], 14, .join ⟨(.pl (.sl Y_api_Poster) :: .pl (.int .u64) :: dd 4 (.whole 0 :: .pl .bool :: .pl (.int .i64) :: dd 30 (.pl .bool :: dd 20 []))), [.row Y_api_Poster]⟩), ([1000000, 118], 4, .join ⟨(.pl (.sl Y_api_Poster) :: .pl (.int .u64) :: dd 58 []), []⟩), ([118], 0, .tmpl ⟨(.pl (.sl Y_api_Poster) :: .pl (.int .u64) :: dd 4 (.whole 0 :: .pl .bool :: .pl (.int .i64) :: dd 51 [])), [.row Y_api_Poster]⟩)]) ⟨ok132, ok135, trivial⟩ (by intro x; kernel_rfl)
noncomputable def pontageref21_AddPosterC : Con := ⟨⟨[.pl Y_api_Pricer, .pl (.int .u64)], []⟩, ⟨[.pl Y_api_Pricer, .pl (.int .i64)], []⟩, pontageref21_AddPoster K0⟩
theorem ok78 : ConOk Tryz.prog 78 pontageref21_AddPosterC := mkOk (n := 78) (k := 60) (hs := [(99, .con pontageref21_ValidC), (118, .con pontageref16_AddC)]) (A := fun _ _ => none) ⟨ok99, ok118, trivial⟩ (by intro x; kernel_rfl)
noncomputable def pontageref25_Escrow_DepositC : Con := ⟨⟨[.ptr 0 [], .pl u256], H_pontageref25_Escrow⟩, ⟨[.pl (.int .i64)], H_pontageref25_Escrow⟩, pontageref25_Escrow_Deposit K0⟩
theorem ok79 : ConOk Tryz.prog 79 pontageref25_Escrow_DepositC := mkOk (n := 79) (k := 140) (hs := [(56, .con pontageref1_IsZeroC), (119, .con pontageref1_Add256C)]) (A := fun _ _ => none) ⟨ok56, ok119, trivial⟩ (by intro x; kernel_rfl)
noncomputable def pontageref1_AddWC : Con := ⟨⟨[.pl (.sl (.int .i64)), .pl (.sl (.int .i64))], []⟩, ⟨[.whole 0], [.row (.int .i64)]⟩, pontageref1_AddW K0⟩
theorem ok100034 : ConOk Tryz.prog 34 pontageref1_AddWC := mkOk (n := 34) (k := 80) (hs := []) (A := annL [([1000000, 34], 7, .join ⟨(.pl (.sl (.int .i64)) :: .pl (.sl (.int .i64)) :: dd 3 (.whole 0 :: .pl (.int .i64) :: .pl (.int .i64) :: dd 44 [])), [.row (.int .i64)]⟩), ([1000000, 34], 9, .join ⟨(.pl (.sl (.int .i64)) :: .pl (.sl (.int .i64)) :: dd 3 (.whole 0 :: .pl (.int .i64) :: .pl (.int .i64) :: dd 44 [])), [.row (.int .i64)]⟩), ([34], 0, .tmpl ⟨(.pl (.sl (.int .i64)) :: .pl (.sl (.int .i64)) :: dd 3 (.whole 0 :: .pl (.int .i64) :: .pl (.int .i64) :: dd 44 [])), [.row (.int .i64)]⟩)]) trivial (by intro x; kernel_rfl)
noncomputable def pontageref11_Ledger_SupplyC : Con := ⟨⟨[.bp Y_pontageref11_Ledger], []⟩, ⟨[.pl (.sl (.int .i64))], []⟩, pontageref11_Ledger_Supply K0⟩
theorem okf120 : ConFresh Tryz.prog 120 pontageref11_Ledger_SupplyC := mkFresh (n := 120) (k := 140) (hs := [(34, .con pontageref1_AddWC), (35, .con pontageref1_FromUint256C)]) (A := annL [([120], 0, .tmpl ⟨(.bp Y_pontageref11_Ledger :: dd 2 (.whole 0 :: .pl (.int .i64) :: dd 35 [])), [.row (.int .i64)]⟩), ([120], 2, .tmpl ⟨(.bp Y_pontageref11_Ledger :: dd 2 (.whole 0 :: dd 1 (.pl (.int .i64) :: dd 34 []))), [.row (.int .i64)]⟩)]) ⟨ok100034, ok35, trivial⟩ (by intro x; kernel_rfl)
noncomputable def pontageref11_Ledger_MintC : Con := ⟨⟨[.ptr 0 [], .pl (.int .u64), .pl u256], H_pontageref11_Ledger⟩, ⟨[.pl (.int .i64)], H_pontageref11_Ledger⟩, pontageref11_Ledger_Mint K0⟩
theorem ok80 : ConOk Tryz.prog 80 pontageref11_Ledger_MintC := mkOk (n := 80) (k := 160) (hs := [(34, .con pontageref1_AddC), (35, .con pontageref1_FromUint256C), (60, .con pontageref1_FitsC), (103, .con pontageref11_Ledger_creditC), (120, .fresh pontageref11_Ledger_SupplyC)]) (A := fun _ _ => none) ⟨ok34, ok35, ok60, ok103, okf120, trivial⟩ (by intro x; kernel_rfl)
noncomputable def pontageref25_Escrow_ClaimedC : Con := ⟨⟨[.bp Y_pontageref25_Escrow, .pl (.int .u64)], []⟩, ⟨[.pl .bool], []⟩, pontageref25_Escrow_Claimed K0⟩
theorem ok27 : ConOk Tryz.prog 27 pontageref25_Escrow_ClaimedC := mkOk (n := 27) (k := 140) (hs := []) (A := annL [([27], 0, .tmpl ⟨(.bp Y_pontageref25_Escrow :: .pl (.int .u64) :: dd 3 (.pl (.int .i64) :: dd 18 [])), []⟩)]) trivial (by intro x; kernel_rfl)
noncomputable def pontageref8_upC : Con := ⟨⟨[.pl (.int .i64), .pl (.int .i64), .pl (.arr 32 (.int .u8)), .pl (.sl (.arr 32 (.int .u8)))], []⟩, ⟨[.pl (.arr 32 (.int .u8)), .pl .bool], []⟩, pontageref8_up K0⟩
noncomputable def pontageref8_upK (k0 : Nat) : Con := ⟨⟨[.pl (.int .i64), .pl (.int .i64), .pl (.arr 32 (.int .u8)), .pl (.sl (.arr 32 (.int .u8)))], []⟩, ⟨[.pl (.arr 32 (.int .u8)), .pl .bool], []⟩, pontageref8_up_rec K0 k0⟩
theorem okr145 : ∀ k0, ConOk Tryz.prog 145 (pontageref8_upK k0)
  | 0 => fun x y h => by cases h
  | k0 + 1 => mkOk (n := 145) (k := 60) (hs := [(145, .con (pontageref8_upK k0)), (148, .con pontageref8_SplitPointC), (152, .con pontageref7_NodeC)]) (A := fun _ _ => none) ⟨(okr145 k0), ok148, ok152, trivial⟩ (by intro x; kernel_rfl)
theorem ok145 : ConOk Tryz.prog 145 pontageref8_upC := okr145 K0
noncomputable def pontageref8_VerifyC : Con := ⟨⟨[.pl (.arr 32 (.int .u8)), .pl (.int .i64), .pl (.int .i64), .pl (.arr 32 (.int .u8)), .pl (.sl (.arr 32 (.int .u8)))], []⟩, ⟨[.pl .bool], []⟩, pontageref8_Verify K0⟩
theorem ok121 : ConOk Tryz.prog 121 pontageref8_VerifyC := mkOk (n := 121) (k := 60) (hs := [(145, .con pontageref8_upC)]) (A := annL [([1000000, 121], 4, .join ⟨(dd 1 (.pl (.int .i64) :: .pl (.int .i64) :: dd 1 (.pl (.sl (.arr 32 (.int .u8))) :: .ptr 0 [] :: dd 2 (.ptr 1 [] :: dd 30 [])))), [.box (.arr 32 (.int .u8)) (.pl (.arr 32 (.int .u8))), .box (.arr 32 (.int .u8)) (.pl (.arr 32 (.int .u8)))]⟩)]) ⟨ok145, trivial⟩ (by intro x; kernel_rfl)
noncomputable def pontageref25_Escrow_L1BalanceC : Con := ⟨⟨[.bp Y_pontageref25_Escrow, .pl (.int .u64)], []⟩, ⟨[.pl u256], []⟩, pontageref25_Escrow_L1Balance K0⟩
theorem ok123 : ConOk Tryz.prog 123 pontageref25_Escrow_L1BalanceC := mkOk (n := 123) (k := 140) (hs := []) (A := annL [([123], 0, .tmpl ⟨(.bp Y_pontageref25_Escrow :: .pl (.int .u64) :: dd 2 (.ptr 0 [] :: .pl (.int .i64) :: dd 28 [])), [.box u256 (.pl u256)]⟩)]) trivial (by intro x; kernel_rfl)
noncomputable def pontageref25_Escrow_ClaimC : Con := ⟨⟨[.ptr 0 [], .pl Y_api_Claim], H_pontageref25_Escrow⟩, ⟨[.pl (.int .i64)], H_pontageref25_Escrow⟩, pontageref25_Escrow_Claim K0⟩
theorem ok81 : ConOk Tryz.prog 81 pontageref25_Escrow_ClaimC := mkOk (n := 81) (k := 140) (hs := [(27, .con pontageref25_Escrow_ClaimedC), (56, .con pontageref1_IsZeroC), (111, .con pontageref1_Sub256C), (119, .con pontageref1_Add256C), (121, .con pontageref8_VerifyC), (122, .con pontageref24_LeafC), (123, .con pontageref25_Escrow_L1BalanceC)]) (A := annL [([1000000, 81], 4, .join ⟨(.ptr 0 [] :: dd 2 (.ptr 4 [] :: dd 154 (.ptr 0 [] :: []))), [.box Y_pontageref25_Escrow ((.pair (.pl u256) ((.pair (.whole 1) ((.pair (.whole 2) ((.pair (.whole 3) (.pl .nil))))))))), .row (.arr 32 (.int .u8)), .row (.int .u64), .row Y_api_Payment, .box Y_api_Claim (.pl Y_api_Claim)]⟩), ([1000000, 81], 6, .join ⟨(.ptr 0 [] :: dd 2 (.ptr 4 [] :: dd 154 (.ptr 0 [] :: []))), [.box Y_pontageref25_Escrow ((.pair (.pl u256) ((.pair (.whole 1) ((.pair (.whole 2) ((.pair (.whole 3) (.pl .nil))))))))), .row (.arr 32 (.int .u8)), .row (.int .u64), .row Y_api_Payment, .box Y_api_Claim (.pl Y_api_Claim)]⟩), ([81], 0, .tmpl ⟨(.ptr 0 [] :: dd 2 (.ptr 4 [] :: dd 4 (.ptr 5 [] :: .pl (.int .i64) :: dd 148 (.ptr 0 [] :: [])))), [.box Y_pontageref25_Escrow ((.pair (.pl u256) ((.pair (.whole 1) ((.pair (.whole 2) ((.pair (.whole 3) (.pl .nil))))))))), .row (.arr 32 (.int .u8)), .row (.int .u64), .row Y_api_Payment, .box Y_api_Claim (.pl Y_api_Claim), .box u256 (.pl u256)]⟩)]) ⟨ok27, ok56, ok111, ok119, ok121, ok122, ok123, trivial⟩ (by intro x; kernel_rfl)
noncomputable def pontageref28_Machine_otherC : Con := ⟨⟨[.ptr 0 [], .pl Y_api_Step], H_pontageref28_Machine⟩, ⟨[.pl (.int .i64)], H_pontageref28_Machine⟩, pontageref28_Machine_other K0⟩
theorem ok49 : ConOk Tryz.prog 49 pontageref28_Machine_otherC := mkOk (n := 49) (k := 140) (hs := [(34, .con pontageref1_AddC), (35, .con pontageref1_FromUint256C), (56, .con pontageref1_IsZeroC), (60, .con pontageref1_FitsC), (75, .con pontageref13_DrainC), (76, .con pontageref15_NextC), (77, .con pontageref12_SetC), (78, .con pontageref21_AddPosterC), (79, .con pontageref25_Escrow_DepositC), (80, .con pontageref11_Ledger_MintC), (81, .con pontageref25_Escrow_ClaimC)]) (A := annL [([1000000, 49], 22, .join ⟨(.ptr 0 [] :: dd 2 (.ptr 8 [] :: dd 142 (.ptr 0 [] :: .ptr 1 [] :: .ptr 4 [] :: []))), [.box Y_pontageref28_Machine ((.pair (.pl (.int .u64)) ((.pair (.pl Y_api_Params) ((.pair (.pl Y_api_Block) ((.pair (.pl (.int .u64)) ((.pair (.pl Y_api_Pricer) ((.pair (.ptr 1 []) ((.pair (.whole 3) ((.pair (.ptr 4 []) (.pl .nil))))))))))))))))), .box Y_pontageref11_Ledger ((.pair (.whole 2) (.pl (.cons (.arr 4 u256) .nil)))), .row Y_api_Account, .row Y_api_Message, .box Y_pontageref25_Escrow ((.pair (.pl u256) ((.pair (.whole 5) ((.pair (.whole 6) ((.pair (.whole 7) (.pl .nil))))))))), .row (.arr 32 (.int .u8)), .row (.int .u64), .row Y_api_Payment, .box Y_api_Step (.pl Y_api_Step)]⟩)]) ⟨ok34, ok35, ok56, ok60, ok75, ok76, ok77, ok78, ok79, ok80, ok81, trivial⟩ (by intro x; kernel_rfl)
noncomputable def pontageref28_Machine_ExecuteC : Con := ⟨⟨[.ptr 0 [], .pl Y_api_Step], H_pontageref28_Machine⟩, ⟨[.pl Y_api_Receipt], H_pontageref28_Machine⟩, pontageref28_Machine_Execute K0⟩
theorem ok20 : ConOk Tryz.prog 20 pontageref28_Machine_ExecuteC := mkOk (n := 20) (k := 140) (hs := [(46, .con pontageref26_ValidKindC), (47, .con pontageref28_Machine_txC), (48, .con pontageref28_Machine_reportC), (49, .con pontageref28_Machine_otherC)]) (A := annL [([1000000, 20], 4, .join ⟨(.ptr 0 [] :: dd 2 (.ptr 8 [] :: .ptr 9 [] :: dd 41 (.ptr 0 [] :: .ptr 1 [] :: .ptr 4 [] :: []))), [.box Y_pontageref28_Machine ((.pair (.pl (.int .u64)) ((.pair (.pl Y_api_Params) ((.pair (.pl Y_api_Block) ((.pair (.pl (.int .u64)) ((.pair (.pl Y_api_Pricer) ((.pair (.ptr 1 []) ((.pair (.whole 3) ((.pair (.ptr 4 []) (.pl .nil))))))))))))))))), .box Y_pontageref11_Ledger ((.pair (.whole 2) (.pl (.cons (.arr 4 u256) .nil)))), .row Y_api_Account, .row Y_api_Message, .box Y_pontageref25_Escrow ((.pair (.pl u256) ((.pair (.whole 5) ((.pair (.whole 6) ((.pair (.whole 7) (.pl .nil))))))))), .row (.arr 32 (.int .u8)), .row (.int .u64), .row Y_api_Payment, .box Y_api_Step (.pl Y_api_Step), .box Y_api_Receipt ((.pair (.pl (.int .i64)) ((.pair (.pl (.int .i64)) ((.pair (.pl Y_api_Charge) ((.pair (.pl u256) ((.pair (.pl u256) ((.pair (.pl (.int .u64)) ((.pair (.pl u256) ((.pair (.pl u256) ((.pair (.whole 10) (.pl .nil))))))))))))))))))), .row Y_api_Message]⟩)]) ⟨ok46, ok47, ok48, ok49, trivial⟩ (by intro x; kernel_rfl)
noncomputable def pontagelaw0_ModC : Con := ⟨⟨[.pl (.int .i64), .pl (.int .i64)], []⟩, ⟨[.pl (.int .i64)], []⟩, pontagelaw0_Mod K0⟩
theorem ok10 : ConOk Tryz.prog 10 pontagelaw0_ModC := mkOk (n := 10) (k := 160) (hs := []) (A := fun _ _ => none) trivial (by intro x; kernel_rfl)
noncomputable def pontagelaw0_depositC : Con := ⟨⟨[.pl (.int .i64), .pl (.int .u64), .pl .bool], []⟩, ⟨[.pl Y_api_Step], []⟩, pontagelaw0_deposit K0⟩
theorem ok50 : ConOk Tryz.prog 50 pontagelaw0_depositC := mkOk (n := 50) (k := 160) (hs := []) (A := fun _ _ => none) trivial (by intro x; kernel_rfl)
noncomputable def pontagelaw0_reportC : Con := ⟨⟨[.pl (.int .i64), .ptr 0 []], H_pontageref28_Machine⟩, ⟨[.pl Y_api_Message], H_pontageref28_Machine⟩, pontagelaw0_report K0⟩
theorem ok51 : ConOk Tryz.prog 51 pontagelaw0_reportC := mkOk (n := 51) (k := 160) (hs := []) (A := fun _ _ => none) trivial (by intro x; kernel_rfl)
noncomputable def pontagelaw0_paramC : Con := ⟨⟨[.pl (.int .i64)], []⟩, ⟨[.pl Y_api_Step], []⟩, pontagelaw0_param K0⟩
theorem ok52 : ConOk Tryz.prog 52 pontagelaw0_paramC := mkOk (n := 52) (k := 160) (hs := []) (A := annL [([1000000, 52], 7, .join ⟨(.pl (.int .i64) :: dd 1 (.ptr 0 [] :: dd 3 (.ptr 1 [] :: dd 56 []))), [.box Y_api_Step (.pl Y_api_Step), .box Y_api_Step (.pl Y_api_Step)]⟩)]) trivial (by intro x; kernel_rfl)
noncomputable def pontageref8_ProofC : Con := ⟨⟨[.pl (.sl (.arr 32 (.int .u8))), .pl (.int .i64)], []⟩, ⟨[.whole 0], [.row (.arr 32 (.int .u8))]⟩, pontageref8_Proof K0⟩
noncomputable def pontageref8_ProofK (k0 : Nat) : Con := ⟨⟨[.pl (.sl (.arr 32 (.int .u8))), .pl (.int .i64)], []⟩, ⟨[.whole 0], [.row (.arr 32 (.int .u8))]⟩, pontageref8_Proof_rec K0 k0⟩
theorem okr124 : ∀ k0, ConOk Tryz.prog 124 (pontageref8_ProofK k0)
  | 0 => fun x y h => by cases h
  | k0 + 1 => mkOk (n := 124) (k := 140) (hs := [(124, .con (pontageref8_ProofK k0)), (134, .con pontageref8_RootOfC), (148, .con pontageref8_SplitPointC)]) (A := fun _ _ => none) ⟨(okr124 k0), ok134, ok148, trivial⟩ (by intro x; kernel_rfl)
theorem ok124 : ConOk Tryz.prog 124 pontageref8_ProofC := okr124 K0
noncomputable def pontageref24_ProofC : Con := ⟨⟨[.pl (.sl Y_api_Message), .pl (.int .i64), .pl (.int .i64)], []⟩, ⟨[.whole 0, .pl .bool], [.row (.arr 32 (.int .u8))]⟩, pontageref24_Proof K0⟩
theorem ok82 : ConOk Tryz.prog 82 pontageref24_ProofC := mkOk (n := 82) (k := 140) (hs := [(124, .con pontageref8_ProofC), (125, .con pontageref24_LeavesC)]) (A := annL [([1000000, 82], 4, .join ⟨(.pl (.sl Y_api_Message) :: .pl (.int .i64) :: .pl (.int .i64) :: dd 23 []), []⟩)]) ⟨ok124, ok125, trivial⟩ (by intro x; kernel_rfl)
noncomputable def pontageref1_Max256C : Con := ⟨⟨[], []⟩, ⟨[.pl u256], []⟩, pontageref1_Max256 K0⟩
theorem ok85 : ConOk Tryz.prog 85 pontageref1_Max256C := mkOk (n := 85) (k := 60) (hs := []) (A := fun _ _ => none) trivial (by intro x; kernel_rfl)
noncomputable def pontagelaw0_HashOfC : Con := ⟨⟨[.pl (.int .i64)], []⟩, ⟨[.pl (.arr 32 (.int .u8))], []⟩, pontagelaw0_HashOf K0⟩
theorem ok86 : ConOk Tryz.prog 86 pontagelaw0_HashOfC := mkOk (n := 86) (k := 160) (hs := []) (A := annL [([86], 0, .tmpl ⟨(.pl (.int .i64) :: dd 1 (.ptr 0 [] :: .ptr 1 [] :: .pl (.int .i64) :: dd 14 [])), [.box (.arr 32 (.int .u8)) (.pl (.arr 32 (.int .u8))), .box (.arr 32 (.int .u8)) (.pl (.arr 32 (.int .u8)))]⟩)]) trivial (by intro x; kernel_rfl)
noncomputable def pontagelaw0_claimC : Con := ⟨⟨[.pl (.int .i64), .ptr 0 []], H_pontageref28_Machine⟩, ⟨[.pl Y_api_Claim], H_pontageref28_Machine⟩, pontagelaw0_claim K0⟩
theorem ok53 : ConOk Tryz.prog 53 pontagelaw0_claimC := mkOk (n := 53) (k := 160) (hs := [(24, .con pontageref1_ToUint256C), (34, .con pontageref1_AddC), (35, .con pontageref1_FromUint256C), (82, .con pontageref24_ProofC), (83, .con pontageref1_MinC), (84, .con pontageref1_FromUint64C), (85, .con pontageref1_Max256C), (86, .con pontagelaw0_HashOfC)]) (A := fun _ _ => none) ⟨ok24, ok34, ok35, ok82, ok83, ok84, ok85, ok86, trivial⟩ (by intro x; kernel_rfl)
noncomputable def pontagelaw0_RepetitiveBytesC : Con := ⟨⟨[.pl (.sl (.int .i64))], []⟩, ⟨[.pl (.sl (.int .u8))], []⟩, pontagelaw0_RepetitiveBytes K0⟩
theorem ok89 : ConOk Tryz.prog 89 pontagelaw0_RepetitiveBytesC := mkOk (n := 89) (k := 160) (hs := [(10, .con pontagelaw0_ModC)]) (A := annL [([1000000, 89], 15, .join ⟨(.pl (.sl (.int .i64)) :: dd 2 (.whole 0 :: .pl (.int .i64) :: .pl (.int .i64) :: .pl (.int .i64) :: dd 20 (.pl (.int .i64) :: dd 18 (.pl .bool :: dd 50 [])))), [.row (.int .u8)]⟩), ([1000000, 89], 22, .join ⟨(.pl (.sl (.int .i64)) :: dd 2 (.whole 0 :: .pl (.int .i64) :: .pl (.int .i64) :: .pl (.int .i64) :: dd 55 (.pl .bool :: dd 34 []))), [.row (.int .u8)]⟩), ([1000000, 89], 25, .join ⟨(.pl (.sl (.int .i64)) :: dd 2 (.whole 0 :: .pl (.int .i64) :: dd 1 (.pl (.int .i64) :: dd 1 (.pl (.int .i64) :: dd 88 [])))), [.row (.int .u8)]⟩), ([1000000, 89], 28, .join ⟨(.pl (.sl (.int .i64)) :: dd 2 (.whole 0 :: .pl (.int .i64) :: dd 1 (.pl (.int .i64) :: dd 1 (.pl (.int .i64) :: .pl (.int .i64) :: dd 68 (.pl (.int .i64) :: .pl (.int .i64) :: .pl (.int .i64) :: .whole 0 :: .pl (.int .i64) :: .pl .bool :: dd 13 []))))), [.row (.int .u8)]⟩), ([89], 0, .tmpl ⟨(.pl (.sl (.int .i64)) :: dd 2 (.whole 0 :: .pl (.int .i64) :: dd 92 [])), [.row (.int .u8)]⟩), ([89], 3, .tmpl ⟨(.pl (.sl (.int .i64)) :: dd 2 (.whole 0 :: .pl (.int .i64) :: .pl (.int .i64) :: .pl (.int .i64) :: dd 3 (.pl (.int .i64) :: dd 86 []))), [.row (.int .u8)]⟩), ([89], 5, .tmpl ⟨(.pl (.sl (.int .i64)) :: dd 2 (.whole 0 :: .pl (.int .i64) :: .pl (.int .i64) :: .pl (.int .i64) :: .pl (.int .i64) :: dd 89 [])), [.row (.int .u8)]⟩), ([89], 7, .tmpl ⟨(.pl (.sl (.int .i64)) :: dd 2 (.whole 0 :: .pl (.int .i64) :: dd 1 (.pl (.int .i64) :: dd 1 (.pl (.int .i64) :: .pl (.int .i64) :: dd 87 [])))), [.row (.int .u8)]⟩)]) ⟨ok10, trivial⟩ (by intro x; kernel_rfl)
noncomputable def pontagelaw0_transactionC : Con := ⟨⟨[.pl (.int .i64), .pl (.int .u64), .ptr 0 []], H_pontageref28_Machine⟩, ⟨[.pl Y_api_Transaction], H_pontageref28_Machine⟩, pontagelaw0_transaction K0⟩
theorem ok54 : ConOk Tryz.prog 54 pontagelaw0_transactionC := mkOk (n := 54) (k := 160) (hs := [(24, .con pontageref1_ToUint256C), (35, .con pontageref1_FromUint256C), (84, .con pontageref1_FromUint64C), (85, .con pontageref1_Max256C), (87, .con pontageref11_Ledger_GetC), (88, .con pontageref1_MulC), (89, .con pontagelaw0_RepetitiveBytesC)]) (A := fun _ _ => none) ⟨ok24, ok35, ok84, ok85, ok87, ok88, ok89, trivial⟩ (by intro x; kernel_rfl)
noncomputable def pontagelaw0_NextStepC : Con := ⟨⟨[.pl (.int .i64), .ptr 0 [], .pl .bool], H_pontageref28_Machine⟩, ⟨[.pl Y_api_Step], H_pontageref28_Machine⟩, pontagelaw0_NextStep K0⟩
theorem ok21 : ConOk Tryz.prog 21 pontagelaw0_NextStepC := mkOk (n := 21) (k := 160) (hs := [(10, .con pontagelaw0_ModC), (50, .con pontagelaw0_depositC), (51, .con pontagelaw0_reportC), (52, .con pontagelaw0_paramC), (53, .con pontagelaw0_claimC), (54, .con pontagelaw0_transactionC)]) (A := annL [([1000000, 21], 11, .join ⟨(dd 1 (.ptr 0 [] :: dd 4 (.ptr 8 [] :: dd 1 (.pl (.int .u64) :: .pl (.int .i64) :: dd 12 (.pl (.int .i64) :: dd 7 (.pl .bool :: dd 52 (.ptr 0 [] :: .ptr 1 [] :: .ptr 4 [] :: []))))))), [.box Y_pontageref28_Machine ((.pair (.pl (.int .u64)) ((.pair (.pl Y_api_Params) ((.pair (.pl Y_api_Block) ((.pair (.pl (.int .u64)) ((.pair (.pl Y_api_Pricer) ((.pair (.ptr 1 []) ((.pair (.whole 3) ((.pair (.ptr 4 []) (.pl .nil))))))))))))))))), .box Y_pontageref11_Ledger ((.pair (.whole 2) (.pl (.cons (.arr 4 u256) .nil)))), .row Y_api_Account, .row Y_api_Message, .box Y_pontageref25_Escrow ((.pair (.pl u256) ((.pair (.whole 5) ((.pair (.whole 6) ((.pair (.whole 7) (.pl .nil))))))))), .row (.arr 32 (.int .u8)), .row (.int .u64), .row Y_api_Payment, .box Y_api_Step (.pl Y_api_Step)]⟩), ([1000000, 21], 26, .join ⟨(dd 1 (.ptr 0 [] :: dd 4 (.ptr 8 [] :: dd 1 (.pl (.int .u64) :: .pl (.int .i64) :: dd 61 (.pl .bool :: dd 11 (.ptr 0 [] :: .ptr 1 [] :: .ptr 4 [] :: [])))))), [.box Y_pontageref28_Machine ((.pair (.pl (.int .u64)) ((.pair (.pl Y_api_Params) ((.pair (.pl Y_api_Block) ((.pair (.pl (.int .u64)) ((.pair (.pl Y_api_Pricer) ((.pair (.ptr 1 []) ((.pair (.whole 3) ((.pair (.ptr 4 []) (.pl .nil))))))))))))))))), .box Y_pontageref11_Ledger ((.pair (.whole 2) (.pl (.cons (.arr 4 u256) .nil)))), .row Y_api_Account, .row Y_api_Message, .box Y_pontageref25_Escrow ((.pair (.pl u256) ((.pair (.whole 5) ((.pair (.whole 6) ((.pair (.whole 7) (.pl .nil))))))))), .row (.arr 32 (.int .u8)), .row (.int .u64), .row Y_api_Payment, .box Y_api_Step (.pl Y_api_Step)]⟩), ([1000000, 21], 8, .join ⟨(dd 1 (.ptr 0 [] :: .pl .bool :: dd 3 (.ptr 8 [] :: dd 1 (.pl (.int .u64) :: .pl (.int .i64) :: dd 12 (.pl (.int .i64) :: .pl .bool :: dd 59 (.ptr 0 [] :: .ptr 1 [] :: .ptr 4 [] :: [])))))), [.box Y_pontageref28_Machine ((.pair (.pl (.int .u64)) ((.pair (.pl Y_api_Params) ((.pair (.pl Y_api_Block) ((.pair (.pl (.int .u64)) ((.pair (.pl Y_api_Pricer) ((.pair (.ptr 1 []) ((.pair (.whole 3) ((.pair (.ptr 4 []) (.pl .nil))))))))))))))))), .box Y_pontageref11_Ledger ((.pair (.whole 2) (.pl (.cons (.arr 4 u256) .nil)))), .row Y_api_Account, .row Y_api_Message, .box Y_pontageref25_Escrow ((.pair (.pl u256) ((.pair (.whole 5) ((.pair (.whole 6) ((.pair (.whole 7) (.pl .nil))))))))), .row (.arr 32 (.int .u8)), .row (.int .u64), .row Y_api_Payment, .box Y_api_Step (.pl Y_api_Step)]⟩)]) ⟨ok10, ok50, ok51, ok52, ok53, ok54, trivial⟩ (by intro x; kernel_rfl)
noncomputable def pontagelaw0_SimulateC : Con := ⟨⟨[.pl (.sl (.int .i64)), .pl .bool], []⟩, ⟨[.ptr 0 [], .whole 8, .whole 9], [.box Y_pontageref28_Machine (.pair (.pl (.int .u64)) (.pair (.pl Y_api_Params) (.pair (.pl Y_api_Block) (.pair (.pl (.int .u64)) (.pair (.pl Y_api_Pricer) (.pair (.ptr 1 []) (.pair (.whole 3) (.pair (.ptr 2 []) (.pl .nil))))))))), .box Y_pontageref11_Ledger (.pair (.whole 4) (.pl (.cons (.arr 4 u256) .nil))), .box Y_pontageref25_Escrow (.pair (.pl u256) (.pair (.whole 5) (.pair (.whole 6) (.pair (.whole 7) (.pl .nil))))), .row Y_api_Message, .row Y_api_Account, .row (.arr 32 (.int .u8)), .row (.int .u64), .row Y_api_Payment, .row Y_api_Step, .row Y_api_Receipt]⟩, pontagelaw0_Simulate K0⟩
theorem ok9 : ConOk Tryz.prog 9 pontagelaw0_SimulateC := mkOk (n := 9) (k := 160) (hs := [(18, .con pontageref28_NewC), (19, .con pontagelaw0_SetupStepsC), (20, .con pontageref28_Machine_ExecuteC), (21, .con pontagelaw0_NextStepC)]) (A := annL [([9], 0, .tmpl ⟨(.pl (.sl (.int .i64)) :: .pl .bool :: dd 5 (.ptr 0 [] :: .whole 8 :: .whole 9 :: .pl (.int .i64) :: dd 45 [])), [.box Y_pontageref28_Machine ((.pair (.pl (.int .u64)) ((.pair (.pl Y_api_Params) ((.pair (.pl Y_api_Block) ((.pair (.pl (.int .u64)) ((.pair (.pl Y_api_Pricer) ((.pair (.ptr 1 []) ((.pair (.whole 3) ((.pair (.ptr 4 []) (.pl .nil))))))))))))))))), .box Y_pontageref11_Ledger ((.pair (.whole 2) (.pl (.cons (.arr 4 u256) .nil)))), .row Y_api_Account, .row Y_api_Message, .box Y_pontageref25_Escrow ((.pair (.pl u256) ((.pair (.whole 5) ((.pair (.whole 6) ((.pair (.whole 7) (.pl .nil))))))))), .row (.arr 32 (.int .u8)), .row (.int .u64), .row Y_api_Payment, .row Y_api_Step, .row Y_api_Receipt]⟩), ([9], 2, .tmpl ⟨(.pl (.sl (.int .i64)) :: .pl .bool :: dd 5 (.ptr 0 [] :: .whole 8 :: .whole 9 :: dd 1 (.pl (.int .i64) :: dd 44 []))), [.box Y_pontageref28_Machine ((.pair (.pl (.int .u64)) ((.pair (.pl Y_api_Params) ((.pair (.pl Y_api_Block) ((.pair (.pl (.int .u64)) ((.pair (.pl Y_api_Pricer) ((.pair (.ptr 1 []) ((.pair (.whole 3) ((.pair (.ptr 4 []) (.pl .nil))))))))))))))))), .box Y_pontageref11_Ledger ((.pair (.whole 2) (.pl (.cons (.arr 4 u256) .nil)))), .row Y_api_Account, .row Y_api_Message, .box Y_pontageref25_Escrow ((.pair (.pl u256) ((.pair (.whole 5) ((.pair (.whole 6) ((.pair (.whole 7) (.pl .nil))))))))), .row (.arr 32 (.int .u8)), .row (.int .u64), .row Y_api_Payment, .row Y_api_Step, .row Y_api_Receipt]⟩)]) ⟨ok18, ok19, ok20, ok21, trivial⟩ (by intro x; kernel_rfl)
theorem ok57 : ConOk Tryz.prog 57 add64C := add64_ok (fn := Tryz.f57) (by kernel_rfl) (by kernel_rfl) (by kernel_rfl) (by kernel_rfl) (by kernel_rfl)
noncomputable def uint256_AddC : Con := ⟨⟨[.pl u256, .pl u256], []⟩, ⟨[.pl u256, .pl (.int .i64)], []⟩, uint256_Add⟩
theorem ok59 : ConOk Tryz.prog 59 uint256_AddC := mkOk (n := 59) (k := 60) (hs := [(57, .con add64C)]) (A := fun p _ => match p with | 1000000 :: _ => none | _ => some (.unroll 6)) ⟨ok57, trivial⟩ (by intro x; kernel_rfl)
noncomputable def audit_TotalC : Con := ⟨⟨[.pl (.sl Y_api_Step), .pl (.sl Y_api_Receipt)], []⟩, ⟨[.pl Y_api_Totals, .pl (.int .i64)], []⟩, audit_Total K0⟩
theorem ok11 : ConOk Tryz.prog 11 audit_TotalC := mkOk (n := 11) (k := 160) (hs := [(22, .inl), (39, .inl), (59, .con uint256_AddC)]) (A := annL [([11], 0, .tmpl ⟨(.pl (.sl Y_api_Step) :: .pl (.sl Y_api_Receipt) :: dd 2 (.ptr 0 [] :: dd 13 (.pl (.sl Y_api_Receipt) :: .pl (.int .i64) :: .pl (.int .i64) :: dd 40 []))), [.box Y_api_Totals (.pl Y_api_Totals)]⟩), ([11], 2, .tmpl ⟨(.pl (.sl Y_api_Step) :: dd 3 (.ptr 0 [] :: dd 3 (.ptr 1 [] :: .ptr 2 [] :: dd 30 (.pl (.sl Y_api_Receipt) :: .pl (.int .i64) :: .pl (.int .i64) :: dd 18 [])))), [.box Y_api_Totals (.pl Y_api_Totals), .box Y_api_Totals (.pl Y_api_Totals), .box (.cons .bool .nil) (.pl (.cons .bool .nil))]⟩), ([22, 15, 5, 11], 0, .tmpl ⟨(.ptr 0 [] :: .ptr 1 [] :: dd 4 (.ptr 2 [] :: .ptr 3 [] :: dd 3 (.pl (.sl Y_api_Message) :: .pl (.int .i64) :: .pl (.int .i64) :: dd 75 (.pl (.sl Y_api_Step) :: dd 3 (.ptr 4 [] :: dd 3 (.ptr 1 [] :: .ptr 0 [] :: dd 30 (.pl (.sl Y_api_Receipt) :: .pl (.int .i64) :: .pl (.int .i64) :: dd 18 []))))))), [.box (.cons .bool .nil) (.pl (.cons .bool .nil)), .box Y_api_Totals (.pl Y_api_Totals), .box Y_api_Step (.pl Y_api_Step), .box Y_api_Receipt (.pl Y_api_Receipt), .box Y_api_Totals (.pl Y_api_Totals)]⟩)]) ⟨ok59, trivial⟩ (by intro x; kernel_rfl)
noncomputable def pontageref11_Ledger_AccountsC : Con := ⟨⟨[.bp Y_pontageref11_Ledger], []⟩, ⟨[.whole 0], [.row Y_api_Account]⟩, pontageref11_Ledger_Accounts K0⟩
theorem ok25 : ConOk Tryz.prog 25 pontageref11_Ledger_AccountsC := mkOk (n := 25) (k := 140) (hs := [(56, .con pontageref1_IsZeroC)]) (A := annL [([1000000, 25], 11, .join ⟨(.bp Y_pontageref11_Ledger :: dd 2 (.whole 0 :: .pl (.int .i64) :: .ptr 1 [] :: .pl (.int .i64) :: dd 53 [])), [.row Y_api_Account, .box Y_api_Account (.pl Y_api_Account)]⟩), ([1000000, 25], 8, .join ⟨(.bp Y_pontageref11_Ledger :: dd 2 (.whole 0 :: .pl (.int .i64) :: .ptr 1 [] :: dd 54 [])), [.row Y_api_Account, .box Y_api_Account (.pl Y_api_Account)]⟩), ([25], 0, .tmpl ⟨(.bp Y_pontageref11_Ledger :: dd 2 (.whole 0 :: .pl (.int .i64) :: dd 55 [])), [.row Y_api_Account]⟩), ([25], 2, .tmpl ⟨(.bp Y_pontageref11_Ledger :: dd 2 (.whole 0 :: .pl (.int .i64) :: .ptr 1 [] :: .pl (.int .i64) :: dd 53 [])), [.row Y_api_Account, .box Y_api_Account (.pl Y_api_Account)]⟩)]) ⟨ok56, trivial⟩ (by intro x; kernel_rfl)
noncomputable def pontageref25_Escrow_L1BalancesC : Con := ⟨⟨[.bp Y_pontageref25_Escrow], []⟩, ⟨[.whole 0], [.row Y_api_Payment]⟩, pontageref25_Escrow_L1Balances K0⟩
theorem ok26 : ConOk Tryz.prog 26 pontageref25_Escrow_L1BalancesC := mkOk (n := 26) (k := 140) (hs := []) (A := annL [([1000000, 26], 9, .join ⟨(.bp Y_pontageref25_Escrow :: dd 2 (.whole 0 :: .pl (.int .i64) :: .pl (.int .i64) :: dd 50 [])), [.row Y_api_Payment]⟩), ([26], 0, .tmpl ⟨(.bp Y_pontageref25_Escrow :: dd 2 (.whole 0 :: .pl (.int .i64) :: dd 51 [])), [.row Y_api_Payment]⟩), ([26], 2, .tmpl ⟨(.bp Y_pontageref25_Escrow :: dd 2 (.whole 0 :: .pl (.int .i64) :: .pl (.int .i64) :: dd 50 [])), [.row Y_api_Payment]⟩)]) trivial (by intro x; kernel_rfl)
noncomputable def pontageref28_Machine_StateC : Con := ⟨⟨[.ptr 0 []], H_pontageref28_Machine⟩, ⟨[.pair (.pl (.int .u64)) (.pair (.pl Y_api_Params) (.pair (.pl Y_api_Block) (.pair (.pl (.int .u64)) (.pair (.pair (.pl u256) (.pair (.pl (.int .u64)) (.pair (.pl (.int .u64)) (.pair (.pl (.int .u64)) (.pair (.pl Y_api_Int256) (.pair (.whole 8) (.pl .nil))))))) (.pair (.whole 9) (.pair (.pl (.arr 4 u256)) (.pair (.whole 10) (.pair (.whole 11) (.pair (.pl u256) (.pair (.whole 12) (.pl .nil)))))))))))], [.box Y_pontageref28_Machine (.pair (.pl (.int .u64)) (.pair (.pl Y_api_Params) (.pair (.pl Y_api_Block) (.pair (.pl (.int .u64)) (.pair (.pl Y_api_Pricer) (.pair (.ptr 1 []) (.pair (.whole 3) (.pair (.ptr 2 []) (.pl .nil))))))))), .box Y_pontageref11_Ledger (.pair (.whole 4) (.pl (.cons (.arr 4 u256) .nil))), .box Y_pontageref25_Escrow (.pair (.pl u256) (.pair (.whole 5) (.pair (.whole 6) (.pair (.whole 7) (.pl .nil))))), .row Y_api_Message, .row Y_api_Account, .row (.arr 32 (.int .u8)), .row (.int .u64), .row Y_api_Payment, .row Y_api_Poster, .row Y_api_Account, .row Y_api_Message, .row .bool, .row Y_api_Payment]⟩, pontageref28_Machine_State K0⟩
theorem ok13 : ConOk Tryz.prog 13 pontageref28_Machine_StateC := mkOk (n := 13) (k := 140) (hs := [(25, .con pontageref11_Ledger_AccountsC), (26, .con pontageref25_Escrow_L1BalancesC), (27, .con pontageref25_Escrow_ClaimedC)]) (A := annL [([13], 0, .tmpl ⟨(.ptr 0 [] :: dd 1 (.ptr 8 [] :: .ptr 14 [] :: .pl (.int .i64) :: dd 82 (.ptr 0 [] :: .ptr 1 [] :: .ptr 4 [] :: []))), [.box Y_pontageref28_Machine ((.pair (.pl (.int .u64)) ((.pair (.pl Y_api_Params) ((.pair (.pl Y_api_Block) ((.pair (.pl (.int .u64)) ((.pair (.pl Y_api_Pricer) ((.pair (.ptr 1 []) ((.pair (.whole 3) ((.pair (.ptr 4 []) (.pl .nil))))))))))))))))), .box Y_pontageref11_Ledger ((.pair (.whole 2) (.pl (.cons (.arr 4 u256) .nil)))), .row Y_api_Account, .row Y_api_Message, .box Y_pontageref25_Escrow ((.pair (.pl u256) ((.pair (.whole 5) ((.pair (.whole 6) ((.pair (.whole 7) (.pl .nil))))))))), .row (.arr 32 (.int .u8)), .row (.int .u64), .row Y_api_Payment, .box Y_api_State ((.pair (.pl (.int .u64)) ((.pair (.pl Y_api_Params) ((.pair (.pl Y_api_Block) ((.pair (.pl (.int .u64)) ((.pair ((.pair (.pl u256) ((.pair (.pl (.int .u64)) ((.pair (.pl (.int .u64)) ((.pair (.pl (.int .u64)) ((.pair (.pl Y_api_Int256) ((.pair (.whole 9) (.pl .nil))))))))))))) ((.pair (.whole 10) ((.pair (.pl (.arr 4 u256)) ((.pair (.whole 11) ((.pair (.whole 12) ((.pair (.pl u256) ((.pair (.whole 13) (.pl .nil))))))))))))))))))))))), .row Y_api_Poster, .row Y_api_Account, .row Y_api_Message, .row .bool, .row Y_api_Payment, .box Y_api_State ((.pair (.pl (.int .u64)) ((.pair (.pl Y_api_Params) ((.pair (.pl Y_api_Block) ((.pair (.pl (.int .u64)) ((.pair ((.pair (.pl u256) ((.pair (.pl (.int .u64)) ((.pair (.pl (.int .u64)) ((.pair (.pl (.int .u64)) ((.pair (.pl Y_api_Int256) ((.pair (.whole 15) (.pl .nil))))))))))))) ((.pair (.whole 16) ((.pair (.pl (.arr 4 u256)) ((.pair (.whole 17) ((.pair (.whole 18) ((.pair (.pl u256) ((.pair (.whole 19) (.pl .nil))))))))))))))))))))))), .row Y_api_Poster, .row Y_api_Account, .row Y_api_Message, .row .bool, .row Y_api_Payment]⟩)]) ⟨ok25, ok26, ok27, trivial⟩ (by intro x; kernel_rfl)
noncomputable def bigsum_Sum_AddC : Con := ⟨⟨[.pl (.arr 5 (.int .u64)), .pl u256], []⟩, ⟨[.pl (.arr 5 (.int .u64))], []⟩, bigsum_Sum_Add K0⟩
theorem ok29 : ConOk Tryz.prog 29 bigsum_Sum_AddC := mkOk (n := 29) (k := 60) (hs := [(57, .con add64C)]) (A := annL [([29], 0, .tmpl ⟨(dd 2 (.ptr 0 [] :: .ptr 1 [] :: .ptr 2 [] :: .pl (.int .u64) :: dd 1 (.pl (.int .i64) :: dd 22 []))), [.box (.arr 5 (.int .u64)) (.pl (.arr 5 (.int .u64))), .box u256 (.pl u256), .box (.arr 5 (.int .u64)) (.pl (.arr 5 (.int .u64)))]⟩)]) ⟨ok57, trivial⟩ (by intro x; kernel_rfl)
noncomputable def bigsum_OfC : Con := ⟨⟨[.pl (.sl u256)], []⟩, ⟨[.pl (.arr 5 (.int .u64))], []⟩, bigsum_Of K0⟩
theorem ok30 : ConOk Tryz.prog 30 bigsum_OfC := mkOk (n := 30) (k := 60) (hs := [(29, .con bigsum_Sum_AddC)]) (A := annL [([30], 0, .tmpl ⟨(dd 2 (.ptr 0 [] :: .ptr 1 [] :: dd 2 (.pl (.sl u256) :: .pl (.int .i64) :: .pl (.int .i64) :: dd 8 []))), [.box (.arr 5 (.int .u64)) (.pl (.arr 5 (.int .u64))), .box (.arr 5 (.int .u64)) (.pl (.arr 5 (.int .u64)))]⟩)]) ⟨ok29, trivial⟩ (by intro x; kernel_rfl)
noncomputable def audit_supplyC : Con := ⟨⟨[.pl Y_api_State], []⟩, ⟨[.pl (.arr 5 (.int .u64))], []⟩, audit_supply K0⟩
theorem ok28 : ConOk Tryz.prog 28 audit_supplyC := mkOk (n := 28) (k := 60) (hs := [(29, .con bigsum_Sum_AddC), (30, .con bigsum_OfC)]) (A := annL [([28], 0, .tmpl ⟨(dd 2 (.ptr 0 [] :: .ptr 1 [] :: dd 6 (.pl (.sl Y_api_Account) :: .pl (.int .i64) :: .pl (.int .i64) :: dd 9 []))), [.box (.arr 5 (.int .u64)) (.pl (.arr 5 (.int .u64))), .box (.arr 5 (.int .u64)) (.pl (.arr 5 (.int .u64)))]⟩)]) ⟨ok29, ok30, trivial⟩ (by intro x; kernel_rfl)
noncomputable def audit_totalMessagesC : Con := ⟨⟨[.pl Y_api_State], []⟩, ⟨[.pl (.arr 5 (.int .u64))], []⟩, audit_totalMessages K0⟩
theorem ok31 : ConOk Tryz.prog 31 audit_totalMessagesC := mkOk (n := 31) (k := 60) (hs := [(29, .con bigsum_Sum_AddC)]) (A := annL [([31], 0, .tmpl ⟨(dd 2 (.ptr 0 [] :: .ptr 1 [] :: dd 3 (.pl (.sl Y_api_Message) :: .pl (.int .i64) :: .pl (.int .i64) :: dd 9 []))), [.box (.arr 5 (.int .u64)) (.pl (.arr 5 (.int .u64))), .box (.arr 5 (.int .u64)) (.pl (.arr 5 (.int .u64)))]⟩)]) ⟨ok29, trivial⟩ (by intro x; kernel_rfl)
noncomputable def audit_debtsBalancedC : Con := ⟨⟨[.pl (.sl Y_api_Poster)], []⟩, ⟨[.pl .bool], []⟩, audit_debtsBalanced K0⟩
theorem ok32 : ConOk Tryz.prog 32 audit_debtsBalancedC := mkOk (n := 32) (k := 60) (hs := [(30, .con bigsum_OfC)]) (A := annL [([32], 0, .tmpl ⟨(dd 5 (.pl (.sl Y_api_Poster) :: .pl (.int .i64) :: .pl (.int .i64) :: dd 17 [])), []⟩)]) ⟨ok30, trivial⟩ (by intro x; kernel_rfl)
noncomputable def audit_totalPaidC : Con := ⟨⟨[.pl (.sl Y_api_Poster)], []⟩, ⟨[.pl (.arr 5 (.int .u64))], []⟩, audit_totalPaid K0⟩
theorem ok33 : ConOk Tryz.prog 33 audit_totalPaidC := mkOk (n := 33) (k := 60) (hs := [(29, .con bigsum_Sum_AddC)]) (A := annL [([33], 0, .tmpl ⟨(dd 2 (.ptr 0 [] :: .ptr 1 [] :: dd 2 (.pl (.sl Y_api_Poster) :: .pl (.int .i64) :: .pl (.int .i64) :: dd 9 []))), [.box (.arr 5 (.int .u64)) (.pl (.arr 5 (.int .u64))), .box (.arr 5 (.int .u64)) (.pl (.arr 5 (.int .u64)))]⟩)]) ⟨ok29, trivial⟩ (by intro x; kernel_rfl)
noncomputable def audit_CheckC : Con := ⟨⟨[.pl Y_api_State, .pl Y_api_Totals], []⟩, ⟨[.pl (.int .i64)], []⟩, audit_Check K0⟩
theorem ok14 : ConOk Tryz.prog 14 audit_CheckC := mkOk (n := 14) (k := 60) (hs := [(28, .con audit_supplyC), (29, .con bigsum_Sum_AddC), (30, .con bigsum_OfC), (31, .con audit_totalMessagesC), (32, .con audit_debtsBalancedC), (33, .con audit_totalPaidC)]) (A := annL [([1000000, 14], 6, .join ⟨(dd 2 (.ptr 0 [] :: .ptr 1 [] :: dd 15 (.pl .bool :: dd 68 []))), [.box Y_api_State (.pl Y_api_State), .box Y_api_Totals (.pl Y_api_Totals)]⟩)]) ⟨ok28, ok29, ok30, ok31, ok32, ok33, trivial⟩ (by intro x; kernel_rfl)
noncomputable def pontagelaw31_awakeC : Con := ⟨⟨[], []⟩, ⟨[.pl .bool], []⟩, pontagelaw31_awake K0⟩
theorem ok8 : ConOk Tryz.prog 8 pontagelaw31_awakeC := mkOk (n := 8) (k := 160) (hs := [(9, .con pontagelaw0_SimulateC), (11, .con audit_TotalC), (13, .con pontageref28_Machine_StateC), (14, .con audit_CheckC), (18, .con pontageref28_NewC)]) (A := fun _ _ => none) ⟨ok9, ok11, ok13, ok14, ok18, trivial⟩ (by intro x; kernel_rfl)
noncomputable def audit_DebitedC : Con := ⟨⟨[.pl Y_api_Receipt], []⟩, ⟨[.pl u256, .pl (.int .i64)], []⟩, audit_Debited K0⟩
theorem ok16 : ConOk Tryz.prog 16 audit_DebitedC := mkOk (n := 16) (k := 160) (hs := [(39, .inl), (59, .con uint256_AddC)]) (A := annL [([16], 0, .tmpl ⟨(dd 2 (.ptr 0 [] :: dd 1 (.ptr 1 [] :: .ptr 2 [] :: dd 16 (.whole 3 :: .pl (.int .i64) :: .pl (.int .i64) :: dd 10 [])))), [.box u256 (.pl u256), .box u256 (.pl u256), .box (.cons .bool .nil) (.pl (.cons .bool .nil)), .row u256]⟩)]) ⟨ok59, trivial⟩ (by intro x; kernel_rfl)
noncomputable def pontageref31_DebitedC : Con := ⟨⟨[.pl Y_api_Receipt], []⟩, ⟨[.pl u256, .pl (.int .i64)], []⟩, pontageref31_Debited K0⟩
theorem ok17 : ConOk Tryz.prog 17 pontageref31_DebitedC := mkOk (n := 17) (k := 60) (hs := [(34, .con pontageref1_AddC), (35, .con pontageref1_FromUint256C), (40, .con pontageref1_CheckedC)]) (A := fun _ _ => none) ⟨ok34, ok35, ok40, trivial⟩ (by intro x; kernel_rfl)
noncomputable def pontagelaw31_AuditDebitedC : Con := ⟨⟨[.pl Y_api_Receipt, .pl (.arr 5 (.int .u64))], []⟩, ⟨[.pl .bool], []⟩, pontagelaw31_AuditDebited K0⟩
theorem ok7 : ConOk Tryz.prog 7 pontagelaw31_AuditDebitedC := mkOk (n := 7) (k := 160) (hs := [(8, .con pontagelaw31_awakeC), (16, .con audit_DebitedC), (17, .con pontageref31_DebitedC)]) (A := fun _ _ => none) ⟨ok8, ok16, ok17, trivial⟩ (by intro x; kernel_rfl)
end Sym

/- Rules for what a printed function computes. -/
namespace Sym
open Go
def Wp {R : Type} (T : R → Prop) (r : R) : Prop := T r
theorem Wp.brn {R : Type} {T : R → Prop} {c : Bool} {t f : R} (h1 : c = true → Wp T t) (h2 : c = false → Wp T f) : Wp T (brn c t f) := by
  cases c
  · exact h2 rfl
  · exact h1 rfl
theorem Wp.brnT {R : Type} {T : R → Prop} {c : Bool} {t f : R} (hc : c = true) (h : Wp T t) : Wp T (Sym.brn c t f) := by subst hc; exact h
theorem Wp.brnF {R : Type} {T : R → Prop} {c : Bool} {t f : R} (hc : c = false) (h : Wp T f) : Wp T (Sym.brn c t f) := by subst hc; exact h
theorem Wp.optF {R Y : Type} {T : R → Prop} {fail : R} {o : Option Y} {k : Y → R} {y : Y} (ho : o = some y) (h : Wp T (k y)) : Wp T (optF fail o k) := by subst ho; exact h
theorem Wp.call {R Y : Type} {T : R → Prop} {fail : R} {o : Option Y} {k : Y → R} {P : Y → Prop} (ho : ∃ y, o = some y ∧ P y) (h : ∀ y, P y → Wp T (k y)) : Wp T (Sym.optF fail o k) := by
  obtain ⟨y, rfl, hp⟩ := ho
  exact h y hp
theorem Wp.jn {X R : Type} {T : R → Prop} {J : X → R} {f : (X → R) → R} (P : X → Prop) (h1 : ∀ x, P x → Wp T (J x)) (h2 : ∀ j : X → R, (∀ x, P x → Wp T (j x)) → Wp T (f j)) : Wp T (jn J f) := h2 J h1
def Rnd {X R : Type} (T : R → Prop) (Inv : X → Prop) (μ : X → Nat) (m : Nat) (s : Stp X R) : Prop :=
  match s with
  | .again y => Inv y ∧ μ y < m
  | .done r => Wp T r
theorem Wp.again {X R : Type} {T : R → Prop} {Inv : X → Prop} {μ : X → Nat} {m : Nat} {y : X} (h1 : Inv y) (h2 : μ y < m) : Wp (Rnd T Inv μ m) (.again y : Stp X R) := ⟨h1, h2⟩
theorem Wp.done {X R : Type} {T : R → Prop} {Inv : X → Prop} {μ : X → Nat} {m : Nat} {r : R} (h : Wp T r) : Wp (Rnd T Inv μ m) (.done r : Stp X R) := h
theorem Wp.iter {X R : Type} {T : R → Prop} {fail : R} {f : X → Stp X R} {x : X} (Inv : X → Prop) (μ : X → Nat) {k : Nat} (h : ∀ x, Inv x → Wp (Rnd T Inv μ (μ x)) (f x)) (hi : Inv x) (hm : μ x < k) : Wp T (iter fail f k x) := by
  induction k generalizing x with
  | zero => omega
  | succ k ih =>
    have h1 := h x hi
    unfold Sym.iter
    cases hf : f x with
    | again y =>
      rw [hf] at h1
      exact ih h1.1 (Nat.lt_of_lt_of_le h1.2 (by omega))
    | done r =>
      rw [hf] at h1
      exact h1
def Nxt {X R : Type} (T : R → Prop) (fail : R) (f : X → Stp X R) (k : Nat) (s : Stp X R) : Prop :=
  match s with
  | .again y => Wp T (Sym.iter fail f k y)
  | .done r => Wp T r
theorem Wp.unroll {X R : Type} {T : R → Prop} {fail : R} {f : X → Stp X R} {x : X} {k : Nat} (h : Wp (Nxt T fail f k) (f x)) : Wp T (Sym.iter fail f (k + 1) x) := by
  unfold Sym.iter
  cases hf : f x with
  | again y => rw [hf] at h; exact h
  | done r => rw [hf] at h; exact h
theorem Wp.next {X R : Type} {T : R → Prop} {fail : R} {f : X → Stp X R} {y : X} {k : Nat} (h : Wp T (Sym.iter fail f k y)) : Wp (Nxt T fail f k) (.again y) := h
theorem Wp.some {Y : Type} {T : Y → Prop} {y : Y} (h : T y) : Wp (fun o : Option Y => ∃ y, o = some y ∧ T y) (some y) := ⟨y, rfl, h⟩
theorem Wp.out {R : Type} {T : R → Prop} {r : R} (h : Wp T r) : T r := h
theorem I.of_val {k : IntKind} {n : Int} (h : k.min ≤ n ∧ n ≤ k.max) : (I.of k n).val = n := wrap_eq_of_range h
theorem of_u64 {n : Int} (h : 0 ≤ n ∧ n < 18446744073709551616) : (I.of .u64 n).val = n := I.of_val ⟨by simp [IntKind.min, IntKind.signed]; omega, by simp [IntKind.max, IntKind.bits, IntKind.signed]; omega⟩
theorem of_i64 {n : Int} (h : -9223372036854775808 ≤ n ∧ n < 9223372036854775808) : (I.of .i64 n).val = n := I.of_val ⟨by simp [IntKind.min, IntKind.bits, IntKind.signed]; omega, by simp [IntKind.max, IntKind.bits, IntKind.signed]; omega⟩
theorem u64_range (x : I .u64) : 0 ≤ x.val ∧ x.val < 18446744073709551616 := I_range x
theorem i64_range (x : I .i64) : -9223372036854775808 ≤ x.val ∧ x.val < 9223372036854775808 := by
  have h := x.ok
  have h1 : (2 ^ IntKind.i64.bits : Int) = 18446744073709551616 := by decide
  have h2 : (2 ^ (IntKind.i64.bits - 1) : Int) = 9223372036854775808 := by decide
  have h3 : IntKind.i64.signed = true := rfl
  simp only [IntKind.wrap, h1, h2, h3, Bool.true_and, decide_eq_true_eq] at h
  split at h <;> omega
theorem iff_ltb {k : IntKind} {a b : I k} : I.ltb a b = true ↔ a.val < b.val := by simp [I.ltb]
theorem iff_eqb {k : IntKind} {a b : I k} : I.eqb a b = true ↔ a.val = b.val := by simp [I.eqb]
theorem niff_ltb {k : IntKind} {a b : I k} : I.ltb a b = false ↔ b.val ≤ a.val := by simp [I.ltb]
theorem niff_eqb {k : IntKind} {a b : I k} : I.eqb a b = false ↔ a.val ≠ b.val := by simp [I.eqb]
theorem iff_nn {k : IntKind} {a : I k} : I.nn a = true ↔ 0 ≤ a.val := by simp [I.nn]
theorem iff_inB {k : IntKind} {a : I k} {n : Nat} : inB a n = true ↔ 0 ≤ a.val ∧ a.val < n := by simp [inB]
theorem iff_fits {n : Nat} : fitsLen n = true ↔ n ≤ 1073741824 := by simp [fitsLen]
theorem ofNat_i64 {n : Nat} (h : n < 9223372036854775808) : (I.ofNat .i64 n).val = n := of_i64 ⟨by omega, by omega⟩
theorem add_i64 {a b : I .i64} (h : -9223372036854775808 ≤ a.val + b.val ∧ a.val + b.val < 9223372036854775808) : (I.add a b).val = a.val + b.val := of_i64 h
theorem sub_i64 {a b : I .i64} (h : -9223372036854775808 ≤ a.val - b.val ∧ a.val - b.val < 9223372036854775808) : (I.sub a b).val = a.val - b.val := of_i64 h
theorem mul_i64 {a b : I .i64} (h : -9223372036854775808 ≤ a.val * b.val ∧ a.val * b.val < 9223372036854775808) : (I.mul a b).val = a.val * b.val := of_i64 h
theorem rem_i64 {a b : I .i64} (h : 0 ≤ a.val) (h2 : 0 < b.val) : (I.rem a b).val = a.val % b.val := by
  have ha := i64_range a
  have hb := i64_range b
  have e : a.val.tmod b.val = a.val % b.val := Int.tmod_eq_emod_of_nonneg h
  have h3 := Int.emod_nonneg a.val (b := b.val) (by omega)
  have h4 := Int.emod_lt_of_pos a.val h2
  unfold I.rem
  rw [e]
  exact of_i64 ⟨by omega, by omega⟩
theorem quo_i64 {a b : I .i64} (h : 0 ≤ a.val) (h2 : 0 < b.val) : (I.quo a b).val = a.val / b.val := by
  have ha := i64_range a
  have e : a.val.tdiv b.val = a.val / b.val := Int.tdiv_eq_ediv_of_nonneg h
  have h3 : 0 ≤ a.val / b.val := Int.ediv_nonneg h (by omega)
  have h4 : a.val / b.val ≤ a.val := Int.ediv_le_self _ h
  unfold I.quo
  rw [e]
  exact of_i64 ⟨by omega, by omega⟩
theorem add_u64 {a b : I .u64} (h : a.val + b.val < 18446744073709551616) : (I.add a b).val = a.val + b.val := of_u64 ⟨by have := u64_range a; have := u64_range b; omega, h⟩
theorem nn_u64 (a : I .u64) : I.nn a = true := iff_nn.2 (u64_range a).1
end Sym

/- Natural numbers as ints; lists as rows. -/
namespace Sym
open Go
def i6 (n : Nat) : I .i64 := I.of .i64 (n : Int)
theorem i6_val {n : Nat} (h : n < 9223372036854775808) : (i6 n).val = n := of_i64 ⟨by omega, by omega⟩
theorem i6_nat {n : Nat} (h : n < 9223372036854775808) : I.nat (i6 n) = n := by unfold I.nat; rw [i6_val h]; simp
theorem i6_add {n m : Nat} (h : n + m < 9223372036854775808) : I.add (i6 n) (i6 m) = i6 (n + m) := by
  apply I.ext'
  rw [add_i64 (by rw [i6_val (by omega), i6_val (by omega)]; omega), i6_val (by omega), i6_val (by omega), i6_val h]
  omega
theorem i6_ltb {n m : Nat} (hn : n < 9223372036854775808) (hm : m < 9223372036854775808) : I.ltb (i6 n) (i6 m) = decide (n < m) := by
  simp only [I.ltb, i6_val hn, i6_val hm]
  by_cases h : n < m
  · rw [decide_eq_true h, decide_eq_true (by omega)]
  · rw [decide_eq_false h, decide_eq_false (by omega)]
theorem i6_inB {n m : Nat} (hn : n < m) (hm : n < 9223372036854775808) : inB (i6 n) m = true := iff_inB.2 (by rw [i6_val hm]; omega)
theorem rdL_eq {X : Type} (d : X) : ∀ (l : List X) (i : Nat) (h : i < l.length), rdL d l i = l[i]
  | x :: l, 0, _ => rfl
  | x :: l, i + 1, h => rdL_eq d l i (by simpa using h)
theorem rdL_out {X : Type} (d : X) : ∀ (l : List X) (i : Nat), l.length ≤ i → rdL d l i = d
  | [], _, _ => rfl
  | _ :: _, 0, h => by simp at h
  | _ :: l, i + 1, h => rdL_out d l i (by simpa using h)
theorem setAt_eq {X : Type} : ∀ (l : List X) (i : Nat) (v : X), setAt l i v = l.set i v
  | [], _, _ => rfl
  | _ :: _, 0, _ => rfl
  | x :: l, i + 1, v => by simp [setAt, setAt_eq l i v]
theorem lenL_eq {X : Type} (l : List X) : lenL l = l.length := rfl
theorem eqb_iff : ∀ (t : Ty), t.eqOk = true → ∀ x y : t.D, Ty.eqb t x y = true ↔ x = y := by
  intro t
  induction t with
  | int k => intro _ x y; simp only [Ty.eqb, decide_eq_true_eq]; exact ⟨fun h => I.ext' h, fun h => by rw [h]⟩
  | bool => intro _ x y; exact (by decide : ∀ a b : Bool, (a == b) = true ↔ a = b) x y
  | nil => intro _ x y; exact ⟨fun _ => rfl, fun _ => rfl⟩
  | cons a b iha ihb =>
    intro h x y
    simp only [Ty.eqOk, Bool.and_eq_true] at h
    simp only [Ty.eqb, Bool.and_eq_true, iha h.1, ihb h.2]
    obtain ⟨x1, x2⟩ := x
    obtain ⟨y1, y2⟩ := y
    exact ⟨fun h => by rw [show x1 = y1 from h.1, show x2 = y2 from h.2], fun h => ⟨congrArg Prod.fst h, congrArg Prod.snd h⟩⟩
  | arr n t ih =>
    intro h x y
    have key : ∀ (n : Nat) (x y : Arr t.D n), Arr.eqb t.eqb n x y = true ↔ x = y := by
      intro n
      induction n with
      | zero => intro x y; exact ⟨fun _ => rfl, fun _ => rfl⟩
      | succ n ihn =>
        intro x y
        simp only [Arr.eqb, Bool.and_eq_true, ih h, ihn]
        obtain ⟨x1, x2⟩ := x
        obtain ⟨y1, y2⟩ := y
        exact ⟨fun h => by rw [show x1 = y1 from h.1, show x2 = y2 from h.2], fun h => ⟨congrArg Prod.fst h, congrArg Prod.snd h⟩⟩
    exact key n x y
  | str => intro h; cases h
  | sl t _ => intro h; cases h
  | opq => intro h; cases h
theorem eqb_self' {t : Ty} (h : t.eqOk = true) (x : t.D) : Ty.eqb t x x = true := (eqb_iff t h x x).2 rfl
end Sym

/- Natural numbers by digits of 65536: what the reference's first functions compute. -/
namespace Sym
open Go
abbrev Dg : Type := I .i64
def bv : List Dg → Nat
  | [] => 0
  | d :: l => d.nat + 65536 * bv l
def DigOk (d : Dg) : Prop := 0 ≤ d.val ∧ d.val < 65536
def Digs (l : List Dg) : Prop := ∀ d ∈ l, DigOk d
def Lead : List Dg → Prop
  | [] => True
  | [d] => d.val ≠ 0
  | _ :: e :: l => Lead (e :: l)
structure IsB (l : List Dg) (n : Nat) : Prop where
  dig : Digs l
  lead : Lead l
  val : bv l = n
theorem DigOk.nat {d : Dg} (h : DigOk d) : (d.nat : Int) = d.val ∧ d.nat < 65536 := by
  unfold DigOk at h
  unfold I.nat
  omega
theorem digs_cons {d : Dg} {l : List Dg} : Digs (d :: l) ↔ DigOk d ∧ Digs l := by
  unfold Digs
  simp
theorem digs_app {l r : List Dg} : Digs (l ++ r) ↔ Digs l ∧ Digs r := by
  unfold Digs
  simp only [List.mem_append]
  exact ⟨fun h => ⟨fun d hd => h d (.inl hd), fun d hd => h d (.inr hd)⟩, fun h d hd => hd.elim (h.1 d) (h.2 d)⟩
theorem digs_take {l : List Dg} (h : Digs l) (n : Nat) : Digs (l.take n) := fun d hd => h d (List.mem_of_mem_take hd)
theorem bv_lt : ∀ {l : List Dg}, Digs l → bv l < 65536 ^ l.length
  | [], _ => by simp [bv]
  | d :: l, h => by
    have h := digs_cons.1 h
    have h1 := h.1.nat.2
    have h2 := bv_lt h.2
    simp only [bv, List.length_cons, Nat.pow_succ]
    omega
theorem isB_nil : IsB [] 0 := ⟨fun _ h => by simp at h, trivial, rfl⟩
theorem bv_app : ∀ (l r : List Dg), bv (l ++ r) = bv l + 65536 ^ l.length * bv r
  | [], r => by simp [bv]
  | d :: l, r => by
    simp only [List.cons_append, bv, List.length_cons, bv_app l r, Nat.pow_succ, Nat.mul_add]
    rw [Nat.mul_comm (65536 ^ l.length) 65536, Nat.mul_assoc]
    omega
theorem lead_snoc : ∀ (l : List Dg) (d : Dg), d.val ≠ 0 → Lead (l ++ [d])
  | [], d, h => h
  | [e], d, h => h
  | e :: f :: l, d, h => lead_snoc (f :: l) d h
theorem bv_ge : ∀ {l : List Dg}, Digs l → Lead l → l ≠ [] → 65536 ^ (l.length - 1) ≤ bv l
  | [], _, _, h => absurd rfl h
  | [d], hd, hl, _ => by
    have h := (digs_cons.1 hd).1.nat.1
    have : d.val ≠ 0 := hl
    simp only [bv, List.length_singleton, Nat.sub_self, Nat.pow_zero]
    omega
  | d :: e :: l, hd, hl, _ => by
    have := bv_ge (l := e :: l) (digs_cons.1 hd).2 hl (by simp)
    simp only [List.length_cons, Nat.add_sub_cancel] at this ⊢
    simp only [bv, Nat.pow_succ] at *
    omega
theorem IsB.len {l : List Dg} {n k : Nat} (h : IsB l n) : l.length ≤ k ↔ n < 65536 ^ k := by
  have h1 := bv_lt h.dig
  rw [h.val] at h1
  constructor
  · intro hk
    exact Nat.lt_of_lt_of_le h1 (Nat.pow_le_pow_right (by decide) hk)
  · intro hn
    rcases Nat.lt_or_ge k l.length with hk | hk
    · have h2 := bv_ge h.dig h.lead (by intro e; subst e; simp at hk)
      rw [h.val] at h2
      have h3 : 65536 ^ k ≤ 65536 ^ (l.length - 1) := Nat.pow_le_pow_right (by decide) (by omega)
      omega
    · exact hk
theorem K0_ge (n : Nat) (h : n < 2 ^ 64) : n < K0 := by rw [K0_eq]; exact h
theorem norm_ok (l : List Dg) (hd : Digs l) (hl : l.length ≤ 1073741824) : ∃ r, pontageref1_norm K0 ((l, ()), ()) = some ((r, ()), ()) ∧ IsB r (bv l) := by
  have key : Wp (fun o => ∃ r, o = some ((r, ()), ()) ∧ IsB r (bv l)) (pontageref1_norm K0 ((l, ()), ())) := by
    have hlen : (I.ofNat .i64 (lenL l)).val = l.length := ofNat_i64 (by show l.length < _; omega)
    have c1 : (I.of .i64 1).val = 1 := rfl
    have c0 : (I.of .i64 0).val = 0 := rfl
    unfold pontageref1_norm
    refine Wp.iter (fun x => x.1.1 = l ∧ 0 ≤ x.1.2.1.val ∧ x.1.2.1.val ≤ (l.length : Int) ∧ bv (l.take x.1.2.1.val.toNat) = bv l) (fun x => x.1.2.1.val.toNat) ?_ ?_ ?_
    · rintro ⟨⟨l', i, ⟨⟩⟩, ⟨⟩⟩ ⟨e1, hi0, hi1, hb⟩
      simp only at e1 hi0 hi1 hb
      subst e1
      have cut : inB' i (lenL l') = true := by
        show (decide (0 ≤ i.val) && decide (i.val ≤ ((l'.length : Nat) : Int))) = true
        simp [hi0, hi1]
      have sub : subL l' 0 (I.nat i) = l'.take i.val.toNat := by simp [subL, I.nat]
      refine Wp.brn (fun h => ?_) (fun h => ?_)
      · have h := iff_ltb.1 h
        simp only [c0] at h
        have hs : (I.sub i (I.of .i64 1)).val = i.val - 1 := by rw [sub_i64 (by omega)]; omega
        have hidx : (I.nat (I.sub i (I.of .i64 1))) = i.val.toNat - 1 := by unfold I.nat; omega
        have hlt : i.val.toNat - 1 < l'.length := by omega
        have hrd : rdL (I.of .i64 0) l' (I.nat (I.sub i (I.of .i64 1))) = l'[i.val.toNat - 1] := by rw [hidx]; exact rdL_eq _ _ _ hlt
        have htk : l'.take i.val.toNat = l'.take (i.val.toNat - 1) ++ [l'[i.val.toNat - 1]] := by
          rw [List.take_append_getElem hlt]
          congr 1
          omega
        refine Wp.brnT (iff_inB.2 ⟨by show 0 ≤ (I.sub i (I.of .i64 1)).val; omega, by show (I.sub i (I.of .i64 1)).val < (l'.length : Int); omega⟩) ?_
        refine Wp.brn (fun h2 => ?_) (fun h2 => ?_)
        · have h2 := iff_eqb.1 h2
          simp only [hrd] at h2
          refine Wp.again ⟨rfl, ?_, ?_, ?_⟩ ?_
          · show 0 ≤ (I.sub i (I.of .i64 1)).val; omega
          · show (I.sub i (I.of .i64 1)).val ≤ _; omega
          · show bv (l'.take (I.sub i (I.of .i64 1)).val.toNat) = _
            have e : (I.sub i (I.of .i64 1)).val.toNat = i.val.toNat - 1 := by omega
            rw [e, ← hb, htk, bv_app]
            have hz : (l'[i.val.toNat - 1]).nat = 0 := by unfold I.nat; rw [h2]; rfl
            simp [bv, hz]
          · show (I.sub i (I.of .i64 1)).val.toNat < _
            simp only; omega
        · have h2 := niff_eqb.1 h2
          simp only [hrd] at h2
          refine Wp.done (Wp.brnT cut ⟨_, rfl, ?_⟩)
          show IsB (subL l' 0 (I.nat i)) _
          rw [sub]
          refine ⟨digs_take hd _, ?_, hb⟩
          rw [htk]
          exact lead_snoc _ _ h2
      · have h := niff_ltb.1 h
        simp only [c0] at h
        refine Wp.done (Wp.brnT cut ⟨_, rfl, ?_⟩)
        show IsB (subL l' 0 (I.nat i)) _
        rw [sub]
        have e : i.val.toNat = 0 := by omega
        rw [e] at hb ⊢
        simp only [List.take_zero] at hb ⊢
        rw [← hb]
        exact isB_nil
    · refine ⟨rfl, ?_, ?_, ?_⟩
      · show 0 ≤ (I.ofNat .i64 (lenL l)).val; omega
      · show (I.ofNat .i64 (lenL l)).val ≤ _; omega
      · show bv (l.take (I.ofNat .i64 (lenL l)).val.toNat) = _
        rw [hlen, Int.toNat_natCast, List.take_length]
    · refine K0_ge _ ?_
      show (I.ofNat .i64 (lenL l)).val.toNat < _
      omega
  exact key.out
end Sym

/- Natural numbers by digits of 65536: from and to 256 bits, comparison. -/
namespace Sym
open Go
theorem and_mask (k : IntKind) (hk : k.bits = 64) (x : I k) (h : 0 ≤ x.val) (hx : x.val < 18446744073709551616) : ((BitVec.ofInt k.bits x.val &&& BitVec.ofInt k.bits 65535).toNat : Int) = x.val % 65536 := by
  rw [hk, BitVec.toNat_and]
  have h1 : (BitVec.ofInt 64 65535).toNat = 2 ^ 16 - 1 := rfl
  rw [h1, Nat.and_two_pow_sub_one_eq_mod, BitVec.toNat_ofInt]
  omega
theorem and_u64 (x : I .u64) : (I.and x (I.of .u64 65535)).val = x.val % 65536 := by
  have h := u64_range x
  have := and_mask .u64 rfl x h.1 h.2
  have e : (I.of .u64 65535).val = 65535 := rfl
  show (I.of .u64 _).val = _
  rw [e, this]
  exact of_u64 ⟨by omega, by omega⟩
theorem and_i64 (x : I .i64) (h : 0 ≤ x.val) : (I.and x (I.of .i64 65535)).val = x.val % 65536 := by
  have h2 := i64_range x
  have := and_mask .i64 rfl x h (by omega)
  have e : (I.of .i64 65535).val = 65535 := rfl
  show (I.of .i64 _).val = _
  rw [e, this]
  exact of_i64 ⟨by omega, by omega⟩
theorem fdiv_pos (a : Int) (n : Nat) (h : 0 ≤ a) : a.fdiv ((2 : Int) ^ n) = a / (2 : Int) ^ n := by
  have h2 : (0 : Int) ≤ (2 : Int) ^ n := Int.le_of_lt (Int.pow_pos (by decide))
  rw [Int.fdiv_eq_ediv_of_nonneg _ h2]
theorem shr_u64 (x s : I .u64) (hs : s.val < 64) : (I.shr x s).val = x.val / (2 : Int) ^ s.val.toNat := by
  have hx := u64_range x
  have h0 := u64_range s
  have hm : min s.val.toNat IntKind.u64.bits = s.val.toNat := by
    have : IntKind.u64.bits = 64 := rfl
    omega
  unfold I.shr
  rw [hm, fdiv_pos _ _ hx.1]
  have h2 : (0 : Int) < (2 : Int) ^ s.val.toNat := Int.pow_pos (by decide)
  have h3 : 0 ≤ x.val / (2 : Int) ^ s.val.toNat := Int.ediv_nonneg hx.1 (by omega)
  have h4 : x.val / (2 : Int) ^ s.val.toNat ≤ x.val := Int.ediv_le_self _ hx.1
  exact of_u64 ⟨by omega, by omega⟩
theorem shr_i64_16 (x : I .i64) (h : 0 ≤ x.val) : (I.shr x (I.of .u64 16)).val = x.val / 65536 := by
  have hx := i64_range x
  have hm : min (I.of .u64 16).val.toNat IntKind.i64.bits = 16 := rfl
  unfold I.shr
  rw [hm, fdiv_pos _ _ h]
  have e : (2 : Int) ^ 16 = 65536 := by decide
  rw [e]
  exact of_i64 ⟨by omega, by omega⟩
def digF (a : U) (j : Nat) : Dg := I.conv .i64 (I.and (I.shr (Arr.sel (I.of .u64 0) 4 a (j / 4)) (I.of .u64 (16 * (j % 4) : Nat))) (I.of .u64 65535))
theorem digF_nat (a : U) (j : Nat) : (digF a j).val = (Arr.sel (I.of .u64 0) 4 a (j / 4)).val / (2 : Int) ^ (16 * (j % 4)) % 65536 := by
  have h1 : (I.of .u64 (16 * (j % 4) : Nat)).val = (16 * (j % 4) : Nat) := of_u64 ⟨by omega, by omega⟩
  have h2 := shr_u64 (Arr.sel (I.of .u64 0) 4 a (j / 4)) (I.of .u64 (16 * (j % 4) : Nat)) (by omega)
  rw [h1, Int.toNat_natCast] at h2
  unfold digF
  show (I.of .i64 _).val = _
  rw [and_u64, h2]
  exact of_i64 ⟨by omega, by omega⟩
theorem digF_ok (a : U) (j : Nat) : DigOk (digF a j) := by
  unfold DigOk
  rw [digF_nat]
  omega
theorem limb (x : I .u64) (d0 d1 d2 d3 : Nat) (h0 : (d0 : Int) = x.val / (2 : Int) ^ 0 % 65536) (h1 : (d1 : Int) = x.val / (2 : Int) ^ 16 % 65536) (h2 : (d2 : Int) = x.val / (2 : Int) ^ 32 % 65536) (h3 : (d3 : Int) = x.val / (2 : Int) ^ 48 % 65536) :
    x.nat = d0 + 65536 * d1 + 4294967296 * d2 + 281474976710656 * d3 := by
  have p0 : (2 : Int) ^ 0 = 1 := by decide
  have p1 : (2 : Int) ^ 16 = 65536 := by decide
  have p2 : (2 : Int) ^ 32 = 4294967296 := by decide
  have p3 : (2 : Int) ^ 48 = 281474976710656 := by decide
  rw [p0] at h0
  rw [p1] at h1
  rw [p2] at h2
  rw [p3] at h3
  have hx := u64_range x
  have hn := nat_val x
  omega
theorem comb (a0 a1 a2 a3 d0 d1 d2 d3 d4 d5 d6 d7 d8 d9 d10 d11 d12 d13 d14 d15 : Nat) (v0 : a0 = d0 + 65536 * d1 + 4294967296 * d2 + 281474976710656 * d3) (v1 : a1 = d4 + 65536 * d5 + 4294967296 * d6 + 281474976710656 * d7)
    (v2 : a2 = d8 + 65536 * d9 + 4294967296 * d10 + 281474976710656 * d11) (v3 : a3 = d12 + 65536 * d13 + 4294967296 * d14 + 281474976710656 * d15) :
    d0 + 65536 * (d1 + 65536 * (d2 + 65536 * (d3 + 65536 * (d4 + 65536 * (d5 + 65536 * (d6 + 65536 * (d7 + 65536 * (d8 + 65536 * (d9 + 65536 * (d10 + 65536 * (d11 + 65536 * (d12 + 65536 * (d13 + 65536 * (d14 + 65536 * (d15 + 65536 * 0))))))))))))))) =
      a0 + 18446744073709551616 * (a1 + 18446744073709551616 * (a2 + 18446744073709551616 * a3)) := by
  subst v0 v1 v2 v3
  omega
theorem digs_of_U (a : U) : bv ((List.range 16).map (digF a)) = a.val := by
  obtain ⟨a0, a1, a2, a3, ⟨⟩⟩ := a
  have n : ∀ j, ((digF (a0, a1, a2, a3, ()) j).nat : Int) = (Arr.sel (I.of .u64 0) 4 (a0, a1, a2, a3, ()) (j / 4)).val / (2 : Int) ^ (16 * (j % 4)) % 65536 := fun j => (digF_ok _ j).nat.1.trans (digF_nat _ j)
  exact comb _ _ _ _ _ _ _ _ _ _ _ _ _ _ _ _ _ _ _ _ (limb a0 _ _ _ _ (n 0) (n 1) (n 2) (n 3)) (limb a1 _ _ _ _ (n 4) (n 5) (n 6) (n 7)) (limb a2 _ _ _ _ (n 8) (n 9) (n 10) (n 11)) (limb a3 _ _ _ _ (n 12) (n 13) (n 14) (n 15))
theorem FromUint256_ok (a : U) : ∃ r, pontageref1_FromUint256 K0 ((a, ()), ()) = some ((r, ()), ()) ∧ IsB r a.val := by
  have key : Wp (fun o => ∃ r, o = some ((r, ()), ()) ∧ IsB r a.val) (pontageref1_FromUint256 K0 ((a, ()), ())) := by
    have c16 : (I.of .i64 16).val = 16 := rfl
    have c4 : (I.of .i64 4).val = 4 := rfl
    have c1 : (I.of .i64 1).val = 1 := rfl
    unfold pontageref1_FromUint256
    refine Wp.iter (fun x => 0 ≤ x.1.1.val ∧ x.1.1.val ≤ 16 ∧ x.2.1 = a ∧ x.2.2.1 = (List.range x.1.1.val.toNat).map (digF a) ++ List.replicate (16 - x.1.1.val.toNat) (I.of .i64 0)) (fun x => (16 - x.1.1.val).toNat) ?_ ?_ ?_
    · rintro ⟨⟨i, ⟨⟩⟩, a', out, ⟨⟩⟩ ⟨hi0, hi1, e1, e2⟩
      simp only at hi0 hi1 e1 e2
      subst e1
      refine Wp.brn (fun h => ?_) (fun h => ?_)
      · have h := iff_ltb.1 h
        simp only [c16] at h
        have hq : (I.quo i (I.of .i64 4)).val = i.val / 4 := quo_i64 hi0 (by decide)
        have hr : (I.rem i (I.of .i64 4)).val = i.val % 4 := rem_i64 hi0 (by decide)
        have hlen : out.length = 16 := by rw [e2]; simp; omega
        have hs : (I.add i (I.of .i64 1)).val = i.val + 1 := by rw [add_i64 (by omega)]; omega
        have hm : (I.mul (I.of .i64 16) (I.rem i (I.of .i64 4))).val = 16 * (i.val % 4) := by rw [mul_i64 (by rw [c16, hr]; omega), hr, c16]
        refine Wp.brnT (iff_inB.2 ⟨by show 0 ≤ (I.quo i (I.of .i64 4)).val; omega, by show (I.quo i (I.of .i64 4)).val < ((4 : Nat) : Int); omega⟩) ?_
        refine Wp.brnT (nn_u64 _) ?_
        refine Wp.brnT (iff_inB.2 ⟨hi0, by show i.val < ((out.length : Nat) : Int); omega⟩) ?_
        refine Wp.again ⟨?_, ?_, rfl, ?_⟩ ?_
        · show 0 ≤ (I.add i (I.of .i64 1)).val; omega
        · show (I.add i (I.of .i64 1)).val ≤ 16; omega
        · have ed : I.conv .i64 (I.and (I.shr (Arr.sel (I.of .u64 0) 4 a' (I.nat (I.quo i (I.of .i64 4)))) (I.conv .u64 (I.mul (I.of .i64 16) (I.rem i (I.of .i64 4))))) (I.of .u64 65535)) = digF a' i.val.toNat := by
            unfold digF
            have e1 : I.nat (I.quo i (I.of .i64 4)) = i.val.toNat / 4 := by unfold I.nat; omega
            have e2 : I.conv .u64 (I.mul (I.of .i64 16) (I.rem i (I.of .i64 4))) = I.of .u64 (16 * (i.val.toNat % 4) : Nat) := by
              show I.of .u64 _ = _
              rw [hm]
              congr 1
              omega
            rw [e1, e2]
          show setAt out (I.nat i) _ = (List.range (I.add i (I.of .i64 1)).val.toNat).map (digF a') ++ List.replicate (16 - (I.add i (I.of .i64 1)).val.toNat) (I.of .i64 0)
          have e3 : (I.add i (I.of .i64 1)).val.toNat = i.val.toNat + 1 := by omega
          have e4 : I.nat i = ((List.range i.val.toNat).map (digF a')).length := by simp [I.nat]
          have e5 : 16 - i.val.toNat = (16 - (i.val.toNat + 1)) + 1 := by omega
          rw [setAt_eq, e2, e3, e4, List.set_append_right _ _ (Nat.le_refl _), Nat.sub_self, e5, List.replicate_succ, List.set_cons_zero, List.range_succ, List.map_append, List.map_cons, List.map_nil, List.append_assoc]
          show _ ++ _ = _ ++ ([_] ++ _)
          rw [← ed]
          rfl
        · show (16 - (I.add i (I.of .i64 1)).val).toNat < _
          simp only; omega
      · have h := niff_ltb.1 h
        simp only [c16] at h
        have hi : i.val.toNat = 16 := by omega
        rw [hi] at e2
        simp only [Nat.sub_self, List.replicate_zero, List.append_nil] at e2
        subst e2
        have hd : Digs ((List.range 16).map (digF a')) := by
          intro d hd
          rw [List.mem_map] at hd
          obtain ⟨j, _, rfl⟩ := hd
          exact digF_ok a' j
        obtain ⟨r, hr, hB⟩ := norm_ok _ hd (by simp)
        exact Wp.done (Wp.optF hr ⟨r, rfl, hB.dig, hB.lead, hB.val.trans (digs_of_U a')⟩)
    · exact ⟨by show 0 ≤ (I.of .i64 0).val; decide, by show (I.of .i64 0).val ≤ 16; decide, rfl, rfl⟩
    · exact K0_ge _ (by show (16 - (I.of .i64 0).val).toNat < _; decide)
  exact key.out
end Sym

/- Natural numbers by digits of 65536: to 256 bits, comparison. -/
namespace Sym
open Go
theorem shl_u64 (x s : I .u64) (hs : s.val < 64) (h : x.val * (2 : Int) ^ s.val.toNat < 18446744073709551616) : (I.shl x s).val = x.val * (2 : Int) ^ s.val.toNat := by
  have hx := u64_range x
  have h0 := u64_range s
  have hm : min s.val.toNat IntKind.u64.bits = s.val.toNat := by
    have : IntKind.u64.bits = 64 := rfl
    omega
  have h2 : (0 : Int) ≤ (2 : Int) ^ s.val.toNat := Int.le_of_lt (Int.pow_pos (by decide))
  unfold I.shl
  rw [hm]
  exact of_u64 ⟨Int.mul_nonneg hx.1 h2, h⟩
theorem add_shl (x : I .u64) (d r S : Nat) (hd : d < 65536) (hr : r < 4) (hS : (S : Int) = (2 : Int) ^ (16 * r)) (hx : x.nat < S) (hl : S ≤ 281474976710656) : (I.add x (I.shl (I.of .u64 d) (I.of .u64 (16 * r : Nat)))).nat = x.nat + S * d := by
  have h1 : (I.of .u64 (16 * r : Nat)).val = (16 * r : Nat) := of_u64 ⟨by omega, by omega⟩
  have h2 : (I.of .u64 (d : Int)).val = d := of_u64 ⟨by omega, by omega⟩
  have hv := nat_val x
  have hdS : (d : Int) * S = ((S * d : Nat) : Int) := by rw [Nat.mul_comm, Int.natCast_mul]
  have hle : S * d ≤ 281474976710656 * 65535 := Nat.mul_le_mul hl (by omega)
  have h3 : (I.shl (I.of .u64 d) (I.of .u64 (16 * r : Nat))).val = ((S * d : Nat) : Int) := by
    rw [shl_u64 _ _ (by omega) (by rw [h1, h2, Int.toNat_natCast, ← hS, hdS]; omega), h1, h2, Int.toNat_natCast, ← hS, hdS]
  have h4 := add_u64 (a := x) (b := I.shl (I.of .u64 d) (I.of .u64 (16 * r : Nat))) (by rw [h3]; omega)
  rw [h3] at h4
  have h5 := nat_val (I.add x (I.shl (I.of .u64 d) (I.of .u64 (16 * r : Nat))))
  omega
theorem toU_step (u : U) (d : Nat) (j : Nat) (hj : j < 16) (hu : u.val < 65536 ^ j) (hd : d < 65536) :
    U.val (Arr.upd 4 u (j / 4) (I.add (Arr.sel (I.of .u64 0) 4 u (j / 4)) (I.shl (I.of .u64 d) (I.of .u64 (16 * (j % 4) : Nat))))) = u.val + 65536 ^ j * d := by
  obtain ⟨u0, u1, u2, u3, ⟨⟩⟩ := u
  have n0 := nat_lt u0
  have n1 := nat_lt u1
  have n2 := nat_lt u2
  have n3 := nat_lt u3
  unfold U.val at hu
  simp only at hu
  have hc : j = 0 ∨ j = 1 ∨ j = 2 ∨ j = 3 ∨ j = 4 ∨ j = 5 ∨ j = 6 ∨ j = 7 ∨ j = 8 ∨ j = 9 ∨ j = 10 ∨ j = 11 ∨ j = 12 ∨ j = 13 ∨ j = 14 ∨ j = 15 := by omega
  rcases hc with rfl | rfl | rfl | rfl | rfl | rfl | rfl | rfl | rfl | rfl | rfl | rfl | rfl | rfl | rfl | rfl
  · have p : 65536 ^ 0 = 1 := by decide
    rw [p] at hu ⊢
    have k := add_shl u0 d 0 1 hd (by decide) (by decide) (by omega) (by decide)
    show U.val ((I.add u0 (I.shl (I.of .u64 d) (I.of .u64 (16 * 0 : Nat)))), u1, u2, u3, ()) = _
    unfold U.val
    simp only
    omega
  · have p : 65536 ^ 1 = 65536 := by decide
    rw [p] at hu ⊢
    have k := add_shl u0 d 1 65536 hd (by decide) (by decide) (by omega) (by decide)
    show U.val ((I.add u0 (I.shl (I.of .u64 d) (I.of .u64 (16 * 1 : Nat)))), u1, u2, u3, ()) = _
    unfold U.val
    simp only
    omega
  · have p : 65536 ^ 2 = 4294967296 := by decide
    rw [p] at hu ⊢
    have k := add_shl u0 d 2 4294967296 hd (by decide) (by decide) (by omega) (by decide)
    show U.val ((I.add u0 (I.shl (I.of .u64 d) (I.of .u64 (16 * 2 : Nat)))), u1, u2, u3, ()) = _
    unfold U.val
    simp only
    omega
  · have p : 65536 ^ 3 = 281474976710656 := by decide
    rw [p] at hu ⊢
    have k := add_shl u0 d 3 281474976710656 hd (by decide) (by decide) (by omega) (by decide)
    show U.val ((I.add u0 (I.shl (I.of .u64 d) (I.of .u64 (16 * 3 : Nat)))), u1, u2, u3, ()) = _
    unfold U.val
    simp only
    omega
  · have p : 65536 ^ 4 = 18446744073709551616 := by decide
    rw [p] at hu ⊢
    have k := add_shl u1 d 0 1 hd (by decide) (by decide) (by omega) (by decide)
    show U.val (u0, (I.add u1 (I.shl (I.of .u64 d) (I.of .u64 (16 * 0 : Nat)))), u2, u3, ()) = _
    unfold U.val
    simp only
    omega
  · have p : 65536 ^ 5 = 1208925819614629174706176 := by decide
    rw [p] at hu ⊢
    have k := add_shl u1 d 1 65536 hd (by decide) (by decide) (by omega) (by decide)
    show U.val (u0, (I.add u1 (I.shl (I.of .u64 d) (I.of .u64 (16 * 1 : Nat)))), u2, u3, ()) = _
    unfold U.val
    simp only
    omega
  · have p : 65536 ^ 6 = 79228162514264337593543950336 := by decide
    rw [p] at hu ⊢
    have k := add_shl u1 d 2 4294967296 hd (by decide) (by decide) (by omega) (by decide)
    show U.val (u0, (I.add u1 (I.shl (I.of .u64 d) (I.of .u64 (16 * 2 : Nat)))), u2, u3, ()) = _
    unfold U.val
    simp only
    omega
  · have p : 65536 ^ 7 = 5192296858534827628530496329220096 := by decide
    rw [p] at hu ⊢
    have k := add_shl u1 d 3 281474976710656 hd (by decide) (by decide) (by omega) (by decide)
    show U.val (u0, (I.add u1 (I.shl (I.of .u64 d) (I.of .u64 (16 * 3 : Nat)))), u2, u3, ()) = _
    unfold U.val
    simp only
    omega
  · have p : 65536 ^ 8 = 340282366920938463463374607431768211456 := by decide
    rw [p] at hu ⊢
    have k := add_shl u2 d 0 1 hd (by decide) (by decide) (by omega) (by decide)
    show U.val (u0, u1, (I.add u2 (I.shl (I.of .u64 d) (I.of .u64 (16 * 0 : Nat)))), u3, ()) = _
    unfold U.val
    simp only
    omega
  · have p : 65536 ^ 9 = 22300745198530623141535718272648361505980416 := by decide
    rw [p] at hu ⊢
    have k := add_shl u2 d 1 65536 hd (by decide) (by decide) (by omega) (by decide)
    show U.val (u0, u1, (I.add u2 (I.shl (I.of .u64 d) (I.of .u64 (16 * 1 : Nat)))), u3, ()) = _
    unfold U.val
    simp only
    omega
  · have p : 65536 ^ 10 = 1461501637330902918203684832716283019655932542976 := by decide
    rw [p] at hu ⊢
    have k := add_shl u2 d 2 4294967296 hd (by decide) (by decide) (by omega) (by decide)
    show U.val (u0, u1, (I.add u2 (I.shl (I.of .u64 d) (I.of .u64 (16 * 2 : Nat)))), u3, ()) = _
    unfold U.val
    simp only
    omega
  · have p : 65536 ^ 11 = 95780971304118053647396689196894323976171195136475136 := by decide
    rw [p] at hu ⊢
    have k := add_shl u2 d 3 281474976710656 hd (by decide) (by decide) (by omega) (by decide)
    show U.val (u0, u1, (I.add u2 (I.shl (I.of .u64 d) (I.of .u64 (16 * 3 : Nat)))), u3, ()) = _
    unfold U.val
    simp only
    omega
  · have p : 65536 ^ 12 = 6277101735386680763835789423207666416102355444464034512896 := by decide
    rw [p] at hu ⊢
    have k := add_shl u3 d 0 1 hd (by decide) (by decide) (by omega) (by decide)
    show U.val (u0, u1, u2, (I.add u3 (I.shl (I.of .u64 d) (I.of .u64 (16 * 0 : Nat)))), ()) = _
    unfold U.val
    simp only
    omega
  · have p : 65536 ^ 13 = 411376139330301510538742295639337626245683966408394965837152256 := by decide
    rw [p] at hu ⊢
    have k := add_shl u3 d 1 65536 hd (by decide) (by decide) (by omega) (by decide)
    show U.val (u0, u1, u2, (I.add u3 (I.shl (I.of .u64 d) (I.of .u64 (16 * 1 : Nat)))), ()) = _
    unfold U.val
    simp only
    omega
  · have p : 65536 ^ 14 = 26959946667150639794667015087019630673637144422540572481103610249216 := by decide
    rw [p] at hu ⊢
    have k := add_shl u3 d 2 4294967296 hd (by decide) (by decide) (by omega) (by decide)
    show U.val (u0, u1, u2, (I.add u3 (I.shl (I.of .u64 d) (I.of .u64 (16 * 2 : Nat)))), ()) = _
    unfold U.val
    simp only
    omega
  · have p : 65536 ^ 15 = 1766847064778384329583297500742918515827483896875618958121606201292619776 := by decide
    rw [p] at hu ⊢
    have k := add_shl u3 d 3 281474976710656 hd (by decide) (by decide) (by omega) (by decide)
    show U.val (u0, u1, u2, (I.add u3 (I.shl (I.of .u64 d) (I.of .u64 (16 * 3 : Nat)))), ()) = _
    unfold U.val
    simp only
    omega
theorem bv_take_succ {l : List Dg} {i : Nat} (h : i < l.length) : bv (l.take (i + 1)) = bv (l.take i) + 65536 ^ i * (l[i]).nat := by
  rw [← List.take_append_getElem h, bv_app]
  have e : (l.take i).length = i := by simp; omega
  simp [bv, e]
theorem ToUint256_ok {l : List Dg} {n : Nat} (hl : IsB l n) (hn : n < U.top) : pontageref1_ToUint256 K0 ((l, ()), ()) = some ((U.of n, ()), ()) := by
  have ht : U.top = 65536 ^ 16 := by decide
  have hlen : l.length ≤ 16 := hl.len.2 (by rw [← ht]; exact hn)
  have c16 : (I.of .i64 16).val = 16 := rfl
  have c4 : (I.of .i64 4).val = 4 := rfl
  have c1 : (I.of .i64 1).val = 1 := rfl
  have hol : (I.ofNat .i64 (lenL l)).val = l.length := ofNat_i64 (by show l.length < _; omega)
  have key : Wp (fun o => o = some ((U.of n, ()), ())) (pontageref1_ToUint256 K0 ((l, ()), ())) := by
    unfold pontageref1_ToUint256
    refine Wp.iter (fun x => x.1.1 = l ∧ 0 ≤ x.1.2.1.val ∧ x.1.2.1.val ≤ (l.length : Int) ∧ U.val x.2.2.1 = bv (l.take x.1.2.1.val.toNat)) (fun x => ((l.length : Int) - x.1.2.1.val).toNat) ?_ ?_ ?_
    · rintro ⟨⟨l', i, ⟨⟩⟩, r0, u, ⟨⟩⟩ ⟨e1, hi0, hi1, hu⟩
      simp only at e1 hi0 hi1 hu
      subst e1
      have fin : i.val.toNat = l'.length → u = U.of n := by
        intro e
        rw [e, List.take_length, hl.val] at hu
        rw [← hu]
        exact (U.of_val u).symm
      refine Wp.brn (fun h => ?_) (fun h => ?_)
      · have h := iff_ltb.1 h
        simp only [hol] at h
        have hlt : i.val.toNat < l'.length := by omega
        refine Wp.brnT (iff_ltb.2 (by show i.val < (I.of .i64 16).val; omega)) ?_
        have hq : (I.quo i (I.of .i64 4)).val = i.val / 4 := quo_i64 hi0 (by decide)
        have hr : (I.rem i (I.of .i64 4)).val = i.val % 4 := rem_i64 hi0 (by decide)
        have hs : (I.add i (I.of .i64 1)).val = i.val + 1 := by rw [add_i64 (by omega)]; omega
        have hm : (I.mul (I.of .i64 16) (I.rem i (I.of .i64 4))).val = 16 * (i.val % 4) := by rw [mul_i64 (by rw [c16, hr]; omega), hr, c16]
        have hin : inB (I.quo i (I.of .i64 4)) 4 = true := iff_inB.2 ⟨by omega, by omega⟩
        refine Wp.brnT hin ?_
        refine Wp.brnT (iff_inB.2 ⟨hi0, by show i.val < ((l'.length : Nat) : Int); omega⟩) ?_
        refine Wp.brnT (nn_u64 _) ?_
        refine Wp.brnT hin ?_
        have hdig : DigOk l'[i.val.toNat] := hl.dig _ (List.getElem_mem hlt)
        have hrd : rdL (I.of .i64 0) l' (I.nat i) = l'[i.val.toNat] := rdL_eq _ _ _ hlt
        have e1 : I.nat (I.quo i (I.of .i64 4)) = i.val.toNat / 4 := by unfold I.nat; omega
        have e2 : I.conv .u64 (I.mul (I.of .i64 16) (I.rem i (I.of .i64 4))) = I.of .u64 (16 * (i.val.toNat % 4) : Nat) := by
          show I.of .u64 _ = _
          rw [hm]
          congr 1
          omega
        have e3 : I.conv .u64 (rdL (I.of .i64 0) l' (I.nat i)) = I.of .u64 ((l'[i.val.toNat]).nat : Int) := by
          show I.of .u64 _ = _
          rw [hrd, hdig.nat.1]
        have hub : U.val u < 65536 ^ i.val.toNat := by
          rw [hu]
          have := bv_lt (digs_take hl.dig i.val.toNat)
          rw [List.length_take] at this
          rwa [Nat.min_eq_left (by omega)] at this
        have st := toU_step u (l'[i.val.toNat]).nat i.val.toNat (by omega) hub hdig.nat.2
        refine Wp.again ⟨rfl, ?_, ?_, ?_⟩ ?_
        · show 0 ≤ (I.add i (I.of .i64 1)).val; omega
        · show (I.add i (I.of .i64 1)).val ≤ _; omega
        · show U.val (Arr.upd 4 u (I.nat (I.quo i (I.of .i64 4))) (I.add (Arr.sel (I.of .u64 0) 4 u (I.nat (I.quo i (I.of .i64 4)))) (I.shl (I.conv .u64 (rdL (I.of .i64 0) l' (I.nat i))) (I.conv .u64 (I.mul (I.of .i64 16) (I.rem i (I.of .i64 4))))))) = bv (l'.take (I.add i (I.of .i64 1)).val.toNat)
          have e4 : (I.add i (I.of .i64 1)).val.toNat = i.val.toNat + 1 := by omega
          rw [e1, e2, e3, e4, st, bv_take_succ hlt, ← hu]
        · show ((l'.length : Int) - (I.add i (I.of .i64 1)).val).toNat < _
          simp only; omega
      · have h := niff_ltb.1 h
        simp only [hol] at h
        have := fin (by omega)
        subst this
        exact Wp.done rfl
    · refine ⟨rfl, by show 0 ≤ (I.of .i64 0).val; decide, by show (I.of .i64 0).val ≤ (l.length : Int); have : (I.of .i64 0).val = 0 := rfl; omega, ?_⟩
      show U.val _ = bv (l.take (I.of .i64 0).val.toNat)
      rfl
    · exact K0_ge _ (by show ((l.length : Int) - (I.of .i64 0).val).toNat < _; have : (I.of .i64 0).val = 0 := rfl; omega)
  exact key.out
def errS (n : Nat) : U × I .i64 := if n < U.top then (U.of n, I.of .i64 0) else (U.of 0, I.of .i64 4)
theorem Fits_ok {l : List Dg} {n : Nat} (hl : IsB l n) (hlen : l.length < 9223372036854775808) : pontageref1_Fits K0 ((l, ()), ()) = some ((decide (n < U.top), ()), ()) := by
  have ht : U.top = 65536 ^ 16 := by decide
  have h := hl.len (k := 16)
  have hol : (I.ofNat .i64 (lenL l)).val = l.length := ofNat_i64 hlen
  have c16 : (I.of .i64 16).val = 16 := rfl
  have e : I.leb (I.ofNat .i64 (lenL l)) (I.of .i64 16) = decide (n < U.top) := by
    unfold I.leb
    rw [hol, c16, ht]
    by_cases hc : l.length ≤ 16
    · have := h.1 hc
      simp [this]; omega
    · have : ¬ n < 65536 ^ 16 := fun hh => hc (h.2 hh)
      simp [this]; omega
  refine Wp.out (T := fun o => o = _) ?_
  unfold pontageref1_Fits
  show some ((I.leb (I.ofNat .i64 (lenL l)) (I.of .i64 16), ()), ()) = _
  rw [e]
theorem Checked_ok {l : List Dg} {n : Nat} (hl : IsB l n) (hlen : l.length < 9223372036854775808) : pontageref1_Checked K0 ((l, ()), ()) = some (((errS n).1, (errS n).2, ()), ()) := by
  refine Wp.out (T := fun o => o = _) ?_
  unfold pontageref1_Checked errS
  refine Wp.optF (Fits_ok hl hlen) ?_
  by_cases h : n < U.top
  · refine Wp.brnF (by show (!decide (n < U.top)) = false; simp [h]) ?_
    refine Wp.optF (ToUint256_ok hl h) ?_
    show _ = _
    rw [if_pos h]
    rfl
  · refine Wp.brnT (by show (!decide (n < U.top)) = true; simp [h]) ?_
    show _ = _
    rw [if_neg h]
    rfl
theorem Checked_ok' {l : List Dg} {n : Nat} (hl : IsB l n) (hlen : l.length ≤ 1000000) : pontageref1_Checked K0 ((l, ()), ()) = some (((errS n).1, (errS n).2, ()), ()) := Checked_ok hl (by omega)
end Sym

/- Natural numbers by digits of 65536: sums, differences, comparison. -/
namespace Sym
open Go
abbrev rd0 (l : List Dg) (i : Nat) : Dg := rdL (I.of .i64 0) l i
theorem digOk0 : DigOk (I.of .i64 0) := by unfold DigOk; decide
theorem rd0_ok {l : List Dg} (h : Digs l) (i : Nat) : DigOk (rd0 l i) := by
  rcases Nat.lt_or_ge i l.length with hi | hi
  · rw [rd0, rdL_eq _ _ _ hi]; exact h _ (List.getElem_mem hi)
  · rw [rd0, rdL_out _ _ _ hi]; exact digOk0
theorem rd0_zero {l : List Dg} {i : Nat} (h : l.length ≤ i) : (rd0 l i).nat = 0 := by rw [rd0, rdL_out _ _ _ h]; rfl
theorem bv_drop : ∀ (l : List Dg) (i : Nat), bv (l.drop i) = (rd0 l i).nat + 65536 * bv (l.drop (i + 1))
  | [], i => by simp [bv, rd0, rdL]; rfl
  | x :: l, 0 => by simp [bv, rd0, rdL]
  | x :: l, i + 1 => by simpa [rd0, rdL] using bv_drop l i
theorem lead_last : ∀ {l : List Dg}, Lead l → ∀ (i : Nat), i + 1 = l.length → (rd0 l i).val ≠ 0
  | [], _, i, h => by simp at h
  | [d], h, i, hi => by
    have : i = 0 := by simpa using hi
    subst this
    exact h
  | d :: e :: l, h, 0, hi => by simp at hi
  | d :: e :: l, h, i + 1, hi => lead_last (l := e :: l) h i (by simpa using hi)
structure AddInv (a b : List Dg) (over i : I .i64) (out : List Dg) : Prop where
  o0 : 0 ≤ over.val
  o1 : over.val ≤ 1
  i0 : 0 ≤ i.val
  i1 : i.val ≤ max a.length b.length ∨ (over.val = 0 ∧ i.val = max a.length b.length + 1)
  len : (out.length : Int) = i.val
  dig : Digs out
  sum : bv out + 65536 ^ i.val.toNat * (over.nat + bv (a.drop i.val.toNat) + bv (b.drop i.val.toNat)) = bv a + bv b
  lead : over.val = 0 → (a.length : Int) ≤ i.val → (b.length : Int) ≤ i.val → Lead out
theorem add_step {a b : List Dg} {over i s : I .i64} {out : List Dg} (ha : Digs a) (hb : Digs b) (la : Lead a) (lb : Lead b) (hal : a.length ≤ 1000000) (hbl : b.length ≤ 1000000) (h : AddInv a b over i out)
    (hc : i.val < a.length ∨ i.val < b.length ∨ 0 < over.val) (hs : s.val = over.val + (rd0 a i.val.toNat).val + (rd0 b i.val.toNat).val) :
    AddInv a b (I.shr s (I.of .u64 16)) (I.add i (I.of .i64 1)) (appL out [I.and s (I.of .i64 65535)]) := by
  have c1 : (I.of .i64 1).val = 1 := rfl
  have da := rd0_ok ha i.val.toNat
  have db := rd0_ok hb i.val.toNat
  have da2 := da.nat
  have db2 := db.nat
  unfold DigOk at da db
  have ho0 := h.o0
  have ho1 := h.o1
  have hi0 := h.i0
  have hi1 := h.i1
  have hsh := shr_i64_16 s (by omega)
  have han := and_i64 s (by omega)
  have hi : (I.add i (I.of .i64 1)).val = i.val + 1 := by rw [add_i64 (by omega)]; omega
  have hin : (I.add i (I.of .i64 1)).val.toNat = i.val.toNat + 1 := by omega
  have hout : out.length = i.val.toNat := by have := h.len; omega
  refine ⟨by omega, by omega, by omega, ?_, ?_, ?_, ?_, ?_⟩
  · rcases hi1 with hi1 | hi1
    · rcases Int.lt_or_le i.val (max a.length b.length) with hlt | hge
      · left; omega
      · right
        have z1 := rd0_zero (l := a) (i := i.val.toNat) (by omega)
        have z2 := rd0_zero (l := b) (i := i.val.toNat) (by omega)
        omega
    · exfalso; omega
  · show ((appL out [_]).length : Int) = _
    simp only [appL, List.length_append, List.length_singleton]
    have := h.len
    omega
  · exact digs_app.2 ⟨h.dig, digs_cons.2 ⟨by unfold DigOk; omega, fun _ h => by simp at h⟩⟩
  · have hsum := h.sum
    rw [bv_drop a, bv_drop b] at hsum
    rw [hin]
    have hn1 : (I.and s (I.of .i64 65535)).nat + 65536 * (I.shr s (I.of .u64 16)).nat = over.nat + (rd0 a i.val.toNat).nat + (rd0 b i.val.toNat).nat := by
      unfold I.nat at *
      omega
    have e : over.nat + ((rd0 a i.val.toNat).nat + 65536 * bv (a.drop (i.val.toNat + 1))) + ((rd0 b i.val.toNat).nat + 65536 * bv (b.drop (i.val.toNat + 1))) =
        (I.and s (I.of .i64 65535)).nat + 65536 * ((I.shr s (I.of .u64 16)).nat + bv (a.drop (i.val.toNat + 1)) + bv (b.drop (i.val.toNat + 1))) := by omega
    rw [e, Nat.mul_add, ← Nat.mul_assoc] at hsum
    rw [← hsum, appL, bv_app, hout, Nat.pow_succ]
    simp only [bv, Nat.mul_zero, Nat.add_zero]
    omega
  · intro hz h1 h2
    refine lead_snoc _ _ ?_
    intro hz2
    have hs0 : s.val = 0 := by omega
    rcases hc with hc | hc | hc
    · have := lead_last la i.val.toNat (by omega)
      omega
    · have := lead_last lb i.val.toNat (by omega)
      omega
    · omega
theorem Add_ok {a b : List Dg} {m n : Nat} (ha : IsB a m) (hb : IsB b n) (hal : a.length ≤ 1000000) (hbl : b.length ≤ 1000000) : ∃ r, pontageref1_Add K0 ((a, b, ()), ()) = some ((r, ()), ()) ∧ IsB r (m + n) := by
  have hol : (I.ofNat .i64 (lenL a)).val = a.length := ofNat_i64 (by show a.length < _; omega)
  have hol2 : (I.ofNat .i64 (lenL b)).val = b.length := ofNat_i64 (by show b.length < _; omega)
  have c0 : (I.of .i64 0).val = 0 := rfl
  have key : Wp (fun o => ∃ r, o = some ((r, ()), ()) ∧ IsB r (m + n)) (pontageref1_Add K0 ((a, b, ()), ())) := by
    unfold pontageref1_Add
    refine Wp.iter (fun x => x.1.1 = a ∧ x.1.2.1 = b ∧ AddInv a b x.1.2.2.1 x.1.2.2.2.1 x.2.1) (fun x => ((max a.length b.length : Int) + 2 - x.1.2.2.2.1.val).toNat) ?_ ?_ ?_
    · rintro ⟨⟨a', b', over, i, ⟨⟩⟩, out, ⟨⟩⟩ ⟨e1, e2, hI⟩
      simp only at e1 e2 hI
      subst e1 e2
      have hi0 := hI.i0
      have hi1 := hI.i1
      have ho0 := hI.o0
      have ho1 := hI.o1
      have again : ∀ (s : I .i64), (i.val < a'.length ∨ i.val < b'.length ∨ 0 < over.val) → s.val = over.val + (rd0 a' i.val.toNat).val + (rd0 b' i.val.toNat).val →
          AddInv a' b' (I.shr s (I.of .u64 16)) (I.add i (I.of .i64 1)) (appL out [I.and s (I.of .i64 65535)]) ∧ ((max a'.length b'.length : Int) + 2 - (I.add i (I.of .i64 1)).val).toNat < ((max a'.length b'.length : Int) + 2 - i.val).toNat := by
        intro s hc hs
        refine ⟨add_step ha.dig hb.dig ha.lead hb.lead hal hbl hI hc hs, ?_⟩
        have c1 : (I.of .i64 1).val = 1 := rfl
        have hi : (I.add i (I.of .i64 1)).val = i.val + 1 := by rw [add_i64 (by omega)]; omega
        omega
      have fits : fitsLen (lenL (appL out [I.of .i64 0])) = true := iff_fits.2 (by show (appL out [_]).length ≤ _; rw [appL, List.length_append, List.length_singleton]; have := hI.len; omega)
      have fits' : ∀ d : Dg, fitsLen (lenL (appL out [d])) = true := fun d => iff_fits.2 (by show (appL out [_]).length ≤ _; rw [appL, List.length_append, List.length_singleton]; have := hI.len; omega)
      refine Wp.jn (fun x => x.1.1 = a' ∧ x.1.2.1 = b' ∧ x.1.2.2.1 = over ∧ x.1.2.2.2.1 = i ∧ x.2.1 = out ∧ (i.val < a'.length ∨ i.val < b'.length ∨ 0 < over.val)) ?_ ?_
      · rintro ⟨⟨a1, b1, over1, i1, ⟨⟩⟩, out1, ⟨⟩⟩ ⟨e1, e2, e3, e4, e5, hc⟩
        simp only at e1 e2 e3 e4 e5
        subst e1 e2 e3 e4 e5
        have ra := rd0_ok ha.dig i1.val.toNat
        have rb := rd0_ok hb.dig i1.val.toNat
        unfold DigOk at ra rb
        refine Wp.jn (fun x => x.1.1 = a1 ∧ x.1.2.1 = b1 ∧ x.1.2.2.1.val = over1.val + (rd0 a1 i1.val.toNat).val ∧ x.1.2.2.2.1 = i1 ∧ x.2.1 = out1) ?_ ?_
        · rintro ⟨⟨a2, b2, over2, i2, ⟨⟩⟩, out2, ⟨⟩⟩ ⟨e1, e2, e3, e4, e5⟩
          simp only at e1 e2 e3 e4 e5
          subst e1 e2 e4 e5
          refine Wp.brn (fun h => ?_) (fun h => ?_)
          · have h := iff_ltb.1 h
            simp only [hol2] at h
            refine Wp.brnT (iff_inB.2 ⟨hi0, by show i2.val < ((b2.length : Nat) : Int); omega⟩) ?_
            have hs : (I.add over2 (rd0 b2 i2.val.toNat)).val = over1.val + (rd0 a2 i2.val.toNat).val + (rd0 b2 i2.val.toNat).val := by rw [add_i64 (by omega)]; omega
            have := again _ hc hs
            exact Wp.brnT (fits' _) (Wp.again ⟨rfl, rfl, this.1⟩ this.2)
          · have h := niff_ltb.1 h
            simp only [hol2] at h
            have hz := rd0_zero (l := b2) (i := i2.val.toNat) (by omega)
            have hz2 : (rd0 b2 i2.val.toNat).val = 0 := by unfold I.nat at hz; omega
            have := again over2 hc (by omega)
            exact Wp.brnT (fits' _) (Wp.again ⟨rfl, rfl, this.1⟩ this.2)
        · intro j2 hj2
          refine Wp.brn (fun h => ?_) (fun h => ?_)
          · have h := iff_ltb.1 h
            simp only [hol] at h
            refine Wp.brnT (iff_inB.2 ⟨hi0, by show i1.val < ((a1.length : Nat) : Int); omega⟩) ?_
            exact hj2 _ ⟨rfl, rfl, add_i64 (by show _ ≤ over1.val + (rd0 a1 i1.val.toNat).val ∧ over1.val + (rd0 a1 i1.val.toNat).val < _; omega), rfl, rfl⟩
          · have h := niff_ltb.1 h
            simp only [hol] at h
            have hz := rd0_zero (l := a1) (i := i1.val.toNat) (by omega)
            have hz2 : (rd0 a1 i1.val.toNat).val = 0 := by unfold I.nat at hz; omega
            exact hj2 _ ⟨rfl, rfl, by show over1.val = _; omega, rfl, rfl⟩
      · intro j1 hj1
        refine Wp.brn (fun h => ?_) (fun h => ?_)
        · have h := iff_ltb.1 h
          simp only [hol] at h
          exact hj1 _ ⟨rfl, rfl, rfl, rfl, rfl, .inl h⟩
        · have h := niff_ltb.1 h
          simp only [hol] at h
          refine Wp.brn (fun h2 => ?_) (fun h2 => ?_)
          · have h2 := iff_ltb.1 h2
            simp only [hol2] at h2
            exact hj1 _ ⟨rfl, rfl, rfl, rfl, rfl, .inr (.inl h2)⟩
          · have h2 := niff_ltb.1 h2
            simp only [hol2] at h2
            refine Wp.brn (fun h3 => ?_) (fun h3 => ?_)
            · have h3 := iff_ltb.1 h3
              simp only [c0] at h3
              exact hj1 _ ⟨rfl, rfl, rfl, rfl, rfl, .inr (.inr h3)⟩
            · have h3 := niff_ltb.1 h3
              simp only [c0] at h3
              refine Wp.done ⟨out, rfl, hI.dig, hI.lead (by omega) (by omega) (by omega), ?_⟩
              have hsum := hI.sum
              have hz : over.nat = 0 := by unfold I.nat; omega
              rw [List.drop_of_length_le (l := a') (by omega), List.drop_of_length_le (l := b') (by omega), hz] at hsum
              simp only [bv, Nat.mul_zero, Nat.add_zero] at hsum
              rw [hsum, ha.val, hb.val]
    · refine ⟨rfl, rfl, ?_⟩
      show AddInv a b (I.of .i64 0) (I.of .i64 0) []
      refine ⟨by decide, by decide, by decide, ?_, rfl, fun _ h => by simp at h, ?_, fun _ _ _ => trivial⟩
      · left; show (I.of .i64 0).val ≤ _; omega
      · show bv [] + 65536 ^ (I.of .i64 0).val.toNat * ((I.of .i64 0).nat + bv (a.drop (I.of .i64 0).val.toNat) + bv (b.drop (I.of .i64 0).val.toNat)) = _
        have e : (I.of .i64 0).val.toNat = 0 := rfl
        have e2 : (I.of .i64 0).nat = 0 := rfl
        rw [e, e2]
        simp [bv]
    · exact K0_ge _ (by show ((max a.length b.length : Int) + 2 - (I.of .i64 0).val).toNat < _; omega)
  exact key.out
end Sym

/- Natural numbers by digits of 65536: differences, comparison. -/
namespace Sym
open Go
structure SubInv (a b : List Dg) (under i : I .i64) (out : List Dg) : Prop where
  u0 : 0 ≤ under.val
  u1 : under.val ≤ 1
  i0 : 0 ≤ i.val
  i1 : i.val ≤ a.length
  len : out.length = a.length
  dig : Digs out
  sum : bv (out.take i.val.toNat) + bv (b.take i.val.toNat) = bv (a.take i.val.toNat) + 65536 ^ i.val.toNat * under.nat
end Sym

/- Limbs of 256 bits; products of 64 bits. -/
namespace Sym
open Go
end Sym

/- Products of 256 bits. -/
namespace Sym
open Go
end Sym

/- Equality and order of 256 bits. -/
namespace Sym
open Go
end Sym

/- Quotients of 512 by 256 bits. -/
namespace Sym
open Go
end Sym

/- Quotients of 512 by 256 bits: the loop. -/
namespace Sym
open Go
end Sym

/- Quotients of 512 by 256 bits: what they are. -/
namespace Sym
open Go
structure DivInv (N c t : Nat) (q r : U) : Prop where
  eq : N / 2 ^ t = q.val / 2 ^ t * c + r.val
  lt : r.val < c
  low : q.val % 2 ^ t = 0
end Sym

/- The law of the gas price's bounds, of the plain functions. -/
namespace Sym
open Go
end Sym

/- The law of the charge's total. -/
namespace Sym
open Go
theorem errS_lt {n : Nat} (h : n < U.top) : errS n = (U.of n, I.of .i64 0) := if_pos h
theorem errS_ge {n : Nat} (h : U.top ≤ n) : errS n = (U.of 0, I.of .i64 4) := if_neg (by omega)
end Sym

/- Products of 512 bits and shares of them. -/
namespace Sym
open Go
def lb (n : Nat) (x : Arr (I .u64) n) (i : Nat) : Nat := (Arr.sel (I.of .u64 0) n x i).nat
end Sym

/- Sums that stop at the top; numbers by shape. -/
namespace Sym
open Go
end Sym

/- The law of the gas price's bounds: bytes, numbers, the law. -/
namespace Sym
open Go
end Sym

/- What is built of numbers; for the law of the gas price's bounds. -/
namespace Sym
open Go
end Sym

/- Natural numbers by digits of 65536: products, and quotients by one digit. -/
namespace Sym
open Go
structure MulInv (a b : List Dg) (i k : Nat) (over : Nat) (out : List Dg) : Prop where
  len : out.length = a.length + b.length
  dig : Digs out
  zero : ∀ j, i + b.length ≤ j → (rd0 out j).nat = 0
  eq : bv out + 65536 ^ (i + k) * over = bv (a.take i) * bv b + (rd0 a i).nat * 65536 ^ i * bv (b.take k)
end Sym

/- The law of the gas price and of cover. -/
namespace Sym
open Go
end Sym

/- Signed numbers of 256 bits: what the program's functions compute, told of whole numbers. -/
namespace Sym
open Go
abbrev S : Type := Bool × U × Unit
def S.int (x : S) : Int := if x.1 then -(x.2.1.val : Int) else x.2.1.val
def S.of (z : Int) : S := (decide (z < 0), U.of z.natAbs, ())
theorem S.abs (x : S) : x.int.natAbs = x.2.1.val := by
  unfold S.int
  split <;> omega
theorem S.lt (x : S) : x.int.natAbs < U.top := by rw [S.abs]; exact U.lt _
end Sym

/- Signed numbers of 256 bits: differences, products, quotients, order. -/
namespace Sym
open Go
end Sym

/- Signed numbers: what the reference's functions compute; two laws. -/
namespace Sym
open Go
abbrev SB : Type := Bool × List Dg × Unit
structure IsSB (s : SB) (z : Int) : Prop where
  neg : s.1 = decide (z < 0)
  abs : IsB s.2.1 z.natAbs
def Bd (n : Nat) : Prop := n < 65536 ^ 64
theorem len_small' {l : List Dg} {n : Nat} (h : IsB l n) (k : Nat) (hn : n < 65536 ^ k) (hk : k ≤ 1000000) : l.length ≤ 1000000 := Nat.le_trans (h.len.2 hn) hk
theorem Bd.len {l : List Dg} {n : Nat} (h : IsB l n) (hb : Bd n) : l.length ≤ 1000000 := len_small' h 64 hb (by decide)
end Sym

/- Signed numbers: the laws of order, negation and algebra. -/
namespace Sym
open Go
end Sym

/- Signed numbers: the law of algebra. -/
namespace Sym
open Go
end Sym

/- Signed numbers: the laws of arithmetic. -/
namespace Sym
open Go
end Sym

/- Natural numbers by digits of 65536: quotients. -/
namespace Sym
open Go
structure ShInv (a : List Dg) (d : Nat) (left : Nat) (j : Nat) (q : List Dg) : Prop where
  len : q.length = a.length
  dig : Digs q
  lt : left < d
  eq : bv (a.drop j) = bv (q.drop j) * d + left
end Sym

/- Natural numbers by digits of 65536: the long division. -/
namespace Sym
open Go
structure DivOut (a q r : List Dg) (n j : Nat) : Prop where
  ql : q.length = a.length
  qd : Digs q
  rd : Digs r
  lt : bv r < n
  zero : ∀ s, s < j → (rd0 q s).nat = 0
  eq : bv (a.drop j) = bv (q.drop j) * n + bv r
structure DivMid (a q r : List Dg) (n i t : Nat) : Prop where
  ql : q.length = a.length
  qd : Digs q
  rd : Digs r
  lt : bv r < n
  zero : ∀ s, s < i → (rd0 q s).nat = 0
  low : (rd0 q i).nat % 2 ^ t = 0
  eq : bv (a.drop (i + 1)) * 2 ^ (16 - t) + (rd0 a i).nat / 2 ^ t = (bv (q.drop (i + 1)) * 2 ^ (16 - t) + (rd0 q i).nat / 2 ^ t) * n + bv r
structure DblInv (r : List Dg) (b over k : Nat) (s : List Dg) : Prop where
  len : s.length = r.length
  dig : Digs s
  drop : s.drop k = r.drop k
  o1 : over ≤ 1
  eq : bv (s.take k) + 65536 ^ k * over = 2 * bv (r.take k) + b
end Sym

/- Signed numbers: the law of quotients. -/
namespace Sym
open Go
end Sym

/- Parameters: which are valid. -/
namespace Sym
open Go
abbrev Prm : Type := I .u64 × I .u64 × I .u64 × U × I .u64 × U × I .u64 × U × I .u64 × I .u64 × I .u64 × I .u64 × Unit
end Sym

/- The price of a unit: what the program computes. -/
namespace Sym
open Go
def Prm.eq (p : Prm) : I .u64 := p.2.2.2.2.2.2.2.2.1
end Sym

/- The price of a unit: the laws over valid parameters. -/
namespace Sym
open Go
end Sym

/- What the fees rest on. -/

/- The compression: what both programs compute. -/
namespace Sym
open Go
abbrev B8 : Type := I .u8
end Sym

/- The compression: both programs answer alike. -/
namespace Sym
open Go
end Sym

/- The compression of the reference. -/
namespace Sym
open Go
end Sym

/- The fees: units of data, gas, the shares. -/
namespace Sym
open Go
end Sym

/- Audit: what a transaction took from its sender. -/
namespace Sym
open Go
abbrev RecT : Type := S_api_Receipt
def preN (l : List U) (i : Nat) : Nat := ((l.take i).map U.val).sum
theorem preN_succ {l : List U} {i : Nat} (h : i < l.length) : preN l (i + 1) = preN l i + (rdL Z_U l i).val := by
  unfold preN
  rw [List.take_add_one, List.getElem?_eq_getElem h, rdL_eq _ _ _ h, List.map_append, List.sum_append]
  simp
def debL (r : RecT) : List U := [r.2.2.1.2.2.2.2.2.2.1, r.2.2.1.2.2.2.2.2.2.2.1, r.2.2.1.2.2.2.2.2.2.2.2.1, r.2.2.1.2.2.2.2.2.2.2.2.2.1, r.2.2.2.2.1]
theorem Debited_eq (r : RecT) : audit_Debited K0 ((r, ()), ()) = some (((errS (preN (debL r) 5)).1, (errS (preN (debL r) 5)).2, ()), ()) := by
  refine Wp.out (T := fun o => o = some (((errS (preN (debL r) 5)).1, (errS (preN (debL r) 5)).2, ()), ())) ?_
  unfold audit_Debited
  refine Wp.iter (fun x => ∃ (i : Nat) (acc : U) (ov : Bool) (u : U), i ≤ 5 ∧ x = ((i6 5, (i6 i, ())), (u, (acc, ((ov, ()), (debL r, ()))))) ∧ (if ov = true then U.top ≤ preN (debL r) i else preN (debL r) i < U.top ∧ U.val acc = preN (debL r) i)) (fun x => 5 - x.1.2.1.val.toNat) ?_ ⟨0, Z_U, false, Z_U, by omega, rfl, by rw [if_neg (by decide)]; exact ⟨by show 0 < U.top; decide, rfl⟩⟩ (by rw [K0_eq]; show 5 - 0 < _; decide)
  rintro x ⟨i, acc, ov, u, hi, rfl, hinv⟩
  have hl : (debL r).length = 5 := rfl
  simp only [show (I.of .i64 1) = i6 1 from rfl, lenL_eq, hl, i6_ltb (show i < 9223372036854775808 by omega) (show 5 < 9223372036854775808 by omega), i6_nat (show i < 9223372036854775808 by omega), i6_add (show i + 1 < 9223372036854775808 by omega)]
  refine Wp.brn (fun hc => ?_) (fun hc => ?_)
  · have hc := of_decide_eq_true hc
    refine Wp.brnT (i6_inB hc (by omega)) ?_
    have hps := preN_succ (l := debL r) (i := i) (by rw [hl]; exact hc)
    have hmi : 5 - (i6 (i + 1)).val.toNat < 5 - (i6 i).val.toNat := by rw [i6_val (by omega), i6_val (by omega)]; omega
    refine Wp.optF (uint256_Add_eq acc _) ?_
    refine Wp.brn (fun ho => ?_) (fun ho => ?_)
    · have ho : ov = true := ho
      subst ho
      rw [if_pos rfl] at hinv
      refine Wp.again ⟨i + 1, _, true, u, by omega, rfl, ?_⟩ hmi
      rw [if_pos rfl]; omega
    · have ho : ov = false := ho
      subst ho
      rw [if_neg (by decide)] at hinv
      refine Wp.again ⟨i + 1, _, _, u, by omega, rfl, ?_⟩ hmi
      unfold addS
      by_cases h : acc.val + (rdL Z_U (debL r) i).val < U.top
      · rw [if_pos h, if_neg (show ¬ I.neb (I.of .i64 0) (I.of .i64 0) = true from by decide)]
        refine ⟨by omega, ?_⟩
        show (U.of _).val = _
        rw [U.val_of h]
        omega
      · rw [if_neg h, if_pos (show I.neb (I.of .i64 4) (I.of .i64 0) = true from by decide)]
        omega
  · have hc : i = 5 := by have := of_decide_eq_false hc; omega
    subst hc
    refine Wp.done (Wp.brn (fun ho => ?_) (fun ho => ?_))
    · have ho : ov = true := ho
      subst ho
      rw [if_pos rfl] at hinv
      rw [errS_ge hinv]
      rfl
    · have ho : ov = false := ho
      subst ho
      rw [if_neg (by decide)] at hinv
      rw [errS_lt hinv.1, ← hinv.2, U.of_val]
      rfl
theorem small_len {l : List Dg} {n k : Nat} (h : IsB l n) (hn : n < 65536 ^ k) (hk : k ≤ 1000000) : l.length ≤ 1000000 := Nat.le_trans (h.len.2 hn) hk
theorem RDebited_eq (r : RecT) : pontageref31_Debited K0 ((r, ()), ()) = some (((errS (preN (debL r) 5)).1, (errS (preN (debL r) 5)).2, ()), ()) := by
  refine Wp.out (T := fun o => o = some (((errS (preN (debL r) 5)).1, (errS (preN (debL r) 5)).2, ()), ())) ?_
  unfold pontageref31_Debited
  have ht : ∀ a : U, a.val < 65536 ^ 16 := fun a => Nat.lt_of_lt_of_le (U.lt a) (by decide)
  obtain ⟨b0, h0, B0⟩ := FromUint256_ok r.2.2.1.2.2.2.2.2.2.1
  obtain ⟨b1, h1, B1⟩ := FromUint256_ok r.2.2.1.2.2.2.2.2.2.2.1
  obtain ⟨b3, h3, B3⟩ := FromUint256_ok r.2.2.1.2.2.2.2.2.2.2.2.1
  obtain ⟨b4, h4, B4⟩ := FromUint256_ok r.2.2.1.2.2.2.2.2.2.2.2.2.1
  obtain ⟨b7, h7, B7⟩ := FromUint256_ok r.2.2.2.2.1
  have t0 := ht r.2.2.1.2.2.2.2.2.2.1
  have t1 := ht r.2.2.1.2.2.2.2.2.2.2.1
  have t3 := ht r.2.2.1.2.2.2.2.2.2.2.2.1
  have t4 := ht r.2.2.1.2.2.2.2.2.2.2.2.2.1
  have t7 := ht r.2.2.2.2.1
  have hp : (65536 ^ 17 : Nat) = 65536 * 65536 ^ 16 := by decide
  obtain ⟨b2, h2, B2⟩ := Add_ok B0 B1 (small_len B0 t0 (by decide)) (small_len B1 t1 (by decide))
  obtain ⟨b5, h5, B5⟩ := Add_ok B3 B4 (small_len B3 t3 (by decide)) (small_len B4 t4 (by decide))
  obtain ⟨b6, h6, B6⟩ := Add_ok B2 B5 (small_len B2 (k := 17) (by omega) (by decide)) (small_len B5 (k := 17) (by omega) (by decide))
  obtain ⟨b8, h8, B8⟩ := Add_ok B6 B7 (small_len B6 (k := 17) (by omega) (by decide)) (small_len B7 t7 (by decide))
  have hC := Checked_ok' B8 (small_len B8 (k := 17) (by omega) (by decide))
  have hs : preN (debL r) 5 = r.2.2.1.2.2.2.2.2.2.1.val + r.2.2.1.2.2.2.2.2.2.2.1.val + (r.2.2.1.2.2.2.2.2.2.2.2.1.val + r.2.2.1.2.2.2.2.2.2.2.2.2.1.val) + r.2.2.2.2.1.val := by
    simp only [preN, debL, List.take, List.map, List.sum_cons, List.sum_nil]
    omega
  rw [← hs] at hC
  exact Wp.optF h0 (Wp.optF h1 (Wp.optF h2 (Wp.optF h3 (Wp.optF h4 (Wp.optF h5 (Wp.optF h6 (Wp.optF h7 (Wp.optF h8 (Wp.optF hC rfl)))))))))
theorem awake31 : pontagelaw31_awake K0 ((), ()) = some ((true, ()), ()) := by
  rw [K0_eq]; kernel_rfl
theorem debited_law (r : RecT) (few : (I .u64) × U) : pontagelaw31_AuditDebited K0 ((r, few, ()), ()) = some ((true, ()), ()) := by
  refine Wp.out (T := fun o => o = some ((true, ()), ())) ?_
  unfold pontagelaw31_AuditDebited
  refine Wp.optF (Debited_eq r) (Wp.optF (RDebited_eq r) (Wp.optF (Debited_eq _) (Wp.optF (RDebited_eq _) ?_)))
  exact Wp.brnT (eqb_self' (t := u256) rfl _) (Wp.brnT (iff_eqb.2 rfl) (Wp.brnT (eqb_self' (t := u256) rfl _) (Wp.brnT (iff_eqb.2 rfl) (Wp.optF awake31 rfl))))
end Sym

/- From what a row reads of the arguments to plain values, and from a contract to the row's answer. -/
namespace Sym
open Go
mutual
def argB (P : Program) : Ty → TypeId → Bool
  | .cons a b, id => match P.underlying id with
    | some (.struct fs) => (match fs.toList with
      | f :: r => argB P a f.type && fargB P b r
      | [] => false)
    | _ => false
  | .arr _ t, id => match P.underlying id with
    | some (.array _ e) => argB P t e
    | _ => false
  | .sl t, id => match P.underlying id with
    | some (.slice e) => Nat.ble 1 t.sz && (Nat.ble 1 (P.bytesOf e) && argB P t e)
    | _ => false
  | .opq, _ => false
  | _, _ => true
def fargB (P : Program) : Ty → List Field → Bool
  | .cons a b, f :: r => argB P a f.type && fargB P b r
  | _, _ => true
end
theorem mapM_some {X Y : Type} {f : X → Option Y} : ∀ {l : List X} {r : List Y}, l.mapM f = some r → r.length = l.length ∧ ∀ (i : Nat) (a : X), l[i]? = some a → ∃ b, r[i]? = some b ∧ f a = some b
  | [], r, h => by
    simp only [List.mapM_nil, Option.pure_def, Option.some.injEq] at h
    subst h
    exact ⟨rfl, fun i a h => by simp at h⟩
  | a :: l, r, h => by
    simp only [List.mapM_cons, Option.bind_eq_bind, Option.bind_eq_some_iff, Option.pure_def, Option.some.injEq] at h
    obtain ⟨b, hb, s, hs, rfl⟩ := h
    obtain ⟨h1, h2⟩ := mapM_some hs
    refine ⟨by simp [h1], fun i x hx => ?_⟩
    cases i with
    | zero =>
      simp only [List.getElem?_cons_zero, Option.some.injEq] at hx
      subst hx
      exact ⟨b, by simp, hb⟩
    | succ i =>
      simp only [List.getElem?_cons_succ] at hx
      obtain ⟨y, h3, h4⟩ := h2 i x hx
      exact ⟨y, by simp [h3], h4⟩
theorem mapM_range {Y : Type} {f : Nat → Option Y} {n : Nat} {r : List Y} (h : (List.range n).mapM f = some r) : r.length = n ∧ ∀ i, i < n → ∃ b, r[i]? = some b ∧ f i = some b := by
  obtain ⟨h1, h2⟩ := mapM_some h
  refine ⟨by simpa using h1, fun i hi => h2 i i (by simp [hi])⟩
theorem exists_list {X : Type} : ∀ (n : Nat) (R : Nat → X → Prop), (∀ i, i < n → ∃ x, R i x) → ∃ l : List X, l.length = n ∧ ∀ i x, l[i]? = some x → R i x
  | 0, _, _ => ⟨[], rfl, fun i x h => by simp at h⟩
  | n + 1, R, h => by
    obtain ⟨x, hx⟩ := h 0 (by omega)
    obtain ⟨l, h1, h2⟩ := exists_list n (fun i x => R (i + 1) x) fun i hi => h (i + 1) (by omega)
    refine ⟨x :: l, by simp [h1], fun i y hy => ?_⟩
    cases i with
    | zero => simp only [List.getElem?_cons_zero, Option.some.injEq] at hy; subst hy; exact hx
    | succ i => exact h2 i y (by simpa using hy)
theorem exists_arr {X : Type} {E : X → List Value → Prop} {s : Nat} : ∀ (n : Nat) (cs : List Value), cs.length = n * s → (∀ i, i < n → ∃ x, E x ((cs.drop (i * s)).take s)) → ∃ x, EncArr E n x cs
  | 0, cs, hl, _ => ⟨(), by simp at hl; exact hl⟩
  | n + 1, cs, hl, h => by
    obtain ⟨x, hx⟩ := h 0 (by omega)
    simp only [Nat.zero_mul, List.drop_zero] at hx
    obtain ⟨y, hy⟩ := exists_arr (E := E) (s := s) n (cs.drop s) (by rw [List.length_drop, hl, Nat.succ_mul]; omega) fun i hi => by
      obtain ⟨z, hz⟩ := h (i + 1) (by omega)
      refine ⟨z, ?_⟩
      rw [List.drop_drop, show s + i * s = (i + 1) * s by rw [Nat.succ_mul]; omega]
      exact hz
    exact ⟨(x, y), cs.take s, cs.drop s, (List.take_append_drop s cs).symm, hx, hy⟩
theorem weightsAll_mem {H : Type} {P : Program} {e : TypeId} : ∀ {ds : List (DataW H)} {i : Nat} {d : DataW H}, ds[i]? = some d → ∀ n ∈ d.weights P e, n ∈ DataW.weightsAll P e ds
  | d0 :: ds, 0, d, hd, n, hn => by
    simp only [List.getElem?_cons_zero, Option.some.injEq] at hd
    subst hd
    simp only [DataW.weightsAll, List.mem_append]
    exact .inl hn
  | d0 :: ds, i + 1, d, hd, n, hn => by
    simp only [List.getElem?_cons_succ] at hd
    simp only [DataW.weightsAll, List.mem_append]
    exact .inr (weightsAll_mem hd n hn)
def strOf (s : ByteArray) : List (I .u8) := s.data.toList.map fun b => I.of .u8 b.toNat
theorem bytesOf_strOf (s : ByteArray) : bytesOf (strOf s) = s := by
  unfold bytesOf strOf
  cases s with | mk a =>
  congr 1
  rw [List.map_map]
  have : ((fun c : I .u8 => UInt8.ofNat c.val.toNat) ∘ fun b : UInt8 => I.of .u8 b.toNat) = id := by
    funext b
    simp only [Function.comp, id, I.of, IntKind.wrap, IntKind.bits, IntKind.signed, Bool.false_and, Bool.false_eq_true, if_false]
    have := b.toNat_lt
    rw [show ((b.toNat : Int) % 2 ^ 8) = (b.toNat : Int) by omega, Int.toNat_natCast]
    exact UInt8.ofNat_toNat
  rw [this, List.map_id, Array.toArray_toList]
section
variable {H : Type} {enc : TypeId × Value → H} {P : Program} {W : World} {base : Nat} {spare : Nat → Bool} {held : Bool}
abbrev GW (W : World) : Nat → Prop := fun r => r < W.heap.size
theorem cell_lt {a : Addr} {v : Value} (h : W.cell? a = some v) : a.spot = none ∧ a.block < W.heap.size := by
  unfold World.cell? at h
  split at h
  · rename_i c _ _ hc
    split at h
    · cases h
    · rename_i hs
      refine ⟨by simpa using hs, ?_⟩
      rw [Array.getElem?_eq_some_iff] at hc
      exact hc.1
  · cases h
theorem cells_row {base : Nat} {a : Addr} {n : Nat} {ds : List Value} (h : W.cells? base a n = some ds) : ds.length = n ∧ ∀ j d, ds[j]? = some d → W.cell? (a.add j) = some d := by
  unfold World.cells? at h
  split at h
  · obtain ⟨h1, h2⟩ := mapM_range h
    refine ⟨h1, fun j d hd => ?_⟩
    obtain ⟨b, h3, h4⟩ := h2 j (by rw [← h1]; exact (List.getElem?_eq_some_iff.1 hd).1)
    rw [h3] at hd
    rw [h4, hd]
  · cases h
theorem addr_add {a : Addr} (hs : a.spot = none) (n : Nat) : a.add n = ⟨a.block, a.off + n, none⟩ := by
  unfold Addr.add
  cases a
  simp only at hs
  subst hs
  split
  · rename_i h; subst h; rfl
  · rfl
theorem enc_of_trod : ∀ (t : Ty),
    (∀ fuel id cs (d : DataW H) (p : List MemPlace), TOk P t id → argB P t id = true → DataW.trod enc P W base spare held fuel id cs = some (d, p) → (∀ n ∈ d.weights P id, n ≤ reachBytes) → ∃ x, Enc W (GW W) t x cs) ∧
    (∀ fuel (r : List Field) (o : Nat) (cs : List Value) (xs : List (DataW H × List MemPlace)), FOk P t r o → fargB P t r = true → xs.length = r.length →
      (∀ (i : Nat) (f : Field), r[i]? = some f → DataW.trod enc P W base spare held fuel f.type ((cs.drop f.offset).take (P.cellsOf f.type)) = xs[i]?) →
      (∀ n ∈ DataW.weightsEach P (r.map (·.type)) (xs.map (·.1)), n ≤ reachBytes) → cs.length = o + t.sz → ∃ x, Enc W (GW W) t x (cs.drop o)) := by
  intro t
  have nofld : ∀ t, (∀ a b, t ≠ .cons a b) → t ≠ .nil → ∀ (r : List Field) (o : Nat), ¬ FOk P t r o := by
    intro t h1 h2 r o h
    cases t <;> first | exact h1 _ _ rfl | exact h2 rfl | (cases r <;> exact h.elim)
  induction t with
  | int k =>
    refine ⟨fun fuel id cs d p hT _ h _ => ?_, fun fuel r o cs xs h => (nofld _ (by simp) (by simp) _ _ h).elim⟩
    obtain ⟨n, hcs, _, hw⟩ := DataW.trod_int hT.2 h
    simp only [Lit.wf, Bool.and_eq_true, decide_eq_true_eq] at hw
    exact ⟨(⟨n, wrap_eq_of_range hw⟩ : I k), hcs⟩
  | bool =>
    refine ⟨fun fuel id cs d p hT _ h _ => ?_, fun fuel r o cs xs h => (nofld _ (by simp) (by simp) _ _ h).elim⟩
    obtain ⟨n, hcs, _⟩ := DataW.trod_bool hT.2 h
    exact ⟨n, hcs⟩
  | str =>
    refine ⟨fun fuel id cs d p hT _ h hw => ?_, fun fuel r o cs xs h => (nofld _ (by simp) (by simp) _ _ h).elim⟩
    obtain ⟨s, hcs, hx, _⟩ := DataW.trod_string hT.2 h
    simp only [Prod.mk.injEq] at hx
    obtain ⟨rfl, rfl⟩ := hx
    refine ⟨strOf s, ?_, ?_⟩
    · rw [bytesOf_strOf]; exact hcs
    · have := hw s.data.toList.length (by simp [DataW.weights])
      have h2 : (strOf s).length = s.data.toList.length := List.length_map _
      show (strOf s).length ≤ LIM
      rw [h2]
      simp only [reachBytes, LIM] at *
      omega
  | nil =>
    refine ⟨fun fuel id cs d p hT _ h hw => ?_, fun fuel r o cs xs h _ _ _ _ hl => ⟨(), ?_⟩⟩
    · obtain ⟨xs, n, _, _, hl, _⟩ := DataW.trod_struct hT.2 h
      rw [hT.1] at hl
      exact ⟨(), List.eq_nil_of_length_eq_zero hl⟩
    · show cs.drop o = []
      simp only [Ty.sz, Nat.add_zero] at hl
      rw [List.drop_eq_nil_iff]; omega
  | cons a b iha ihb =>
    refine ⟨fun fuel id cs d p hT hA h hw => ?_, fun fuel r o cs xs hF hA hlen hf hw hl => ?_⟩
    · obtain ⟨hsz, fs, f, r, hu, hfs, hf0, hTa, hFb⟩ := hT
      obtain ⟨xs, n, _, hx, hl, hlen, hfx⟩ := DataW.trod_struct hu h
      simp only [Prod.mk.injEq] at hx
      obtain ⟨rfl, rfl⟩ := hx
      simp only [argB, hu, hfs, Bool.and_eq_true] at hA
      have hfl : ∀ (i : Nat) (g : Field), (f :: r)[i]? = some g → DataW.trod enc P W base spare held n g.type ((cs.drop g.offset).take (P.cellsOf g.type)) = xs[i]? := by
        intro i g hg
        refine hfx i g ?_
        rw [← Array.getElem?_toList, hfs]
        exact hg
      have hlen' : xs.length = r.length + 1 := by rw [hlen, ← Array.length_toList, hfs]; rfl
      match xs, hlen' with
      | y :: ys, hlen' =>
        simp only [DataW.weights, hu, hfs, List.map_cons, DataW.weightsEach, List.mem_append] at hw
        have h0 := hfl 0 f rfl
        simp only [List.getElem?_cons_zero] at h0
        rw [hf0, hTa.size, List.drop_zero] at h0
        obtain ⟨x, hx⟩ := iha.1 n f.type _ y.1 y.2 hTa hA.1 h0 (fun m hm => hw m (.inl hm))
        obtain ⟨z, hz⟩ := ihb.2 n r a.sz cs ys hFb hA.2 (by simpa using hlen') (fun i g hg => by simpa using hfl (i + 1) g hg) (fun m hm => hw m (.inr hm)) (by rw [hl, hsz])
        exact ⟨(x, z), _, _, (List.take_append_drop a.sz cs).symm, hx, hz⟩
    · cases r with
      | nil => exact hF.elim
      | cons f r =>
        obtain ⟨hf0, hTa, hFb⟩ := hF
        simp only [fargB, Bool.and_eq_true] at hA
        match xs, hlen with
        | y :: ys, hlen =>
          simp only [List.map_cons, DataW.weightsEach, List.mem_append] at hw
          have h0 := hf 0 f rfl
          simp only [List.getElem?_cons_zero] at h0
          rw [hf0, hTa.size] at h0
          simp only [Ty.sz] at hl
          obtain ⟨x, hx⟩ := iha.1 fuel f.type _ y.1 y.2 hTa hA.1 h0 (fun m hm => hw m (.inl hm))
          obtain ⟨z, hz⟩ := ihb.2 fuel r (o + a.sz) cs ys hFb hA.2 (by simpa using hlen) (fun i g hg => by simpa using hf (i + 1) g hg) (fun m hm => hw m (.inr hm)) (by omega)
          refine ⟨(x, z), _, _, (List.take_append_drop a.sz (cs.drop o)).symm, hx, ?_⟩
          rw [List.drop_drop]
          exact hz
  | arr n t ih =>
    refine ⟨fun fuel id cs d p hT hA h hw => ?_, fun fuel r o cs xs h => (nofld _ (by simp) (by simp) _ _ h).elim⟩
    obtain ⟨hsz, e, hu, hTe⟩ := hT
    obtain ⟨xs, m, _, hx, hl, hlen, hfx⟩ := DataW.trod_array hu h
    simp only [Prod.mk.injEq] at hx
    obtain ⟨rfl, rfl⟩ := hx
    simp only [argB, hu] at hA
    simp only [DataW.weights, hu] at hw
    refine exists_arr n cs (by rw [hl, hsz]) fun i hi => ?_
    have h0 := hfx i hi
    rw [hTe.size, List.getElem?_eq_getElem (by omega)] at h0
    refine ih.1 m e _ (xs[i]'(by omega)).1 (xs[i]'(by omega)).2 hTe hA h0 fun k hk => hw k (weightsAll_mem (i := i) ?_ k hk)
    rw [List.getElem?_map, List.getElem?_eq_getElem (by omega)]; rfl
  | sl t ih =>
    refine ⟨fun fuel id cs d p hT hA h hw => ?_, fun fuel r o cs xs h => (nofld _ (by simp) (by simp) _ _ h).elim⟩
    obtain ⟨hsz, e, hu, hTe⟩ := hT
    simp only [argB, hu, Bool.and_eq_true] at hA
    obtain ⟨hA1, hA2, hA⟩ := hA
    have hA1 := Nat.le_of_ble_eq_true hA1
    have hA2 := Nat.le_of_ble_eq_true hA2
    rcases DataW.trod_slice hu h with ⟨rfl, _⟩ | ⟨a, len, cap, elems, rest, m, _, rfl, hx, _, hlc, _, hel, hfx, _, _⟩
    · refine ⟨([] : List t.D), none, 0, rfl, Nat.le_refl _, by simp, .inl rfl⟩
    · simp only [Prod.mk.injEq] at hx
      obtain ⟨rfl, rfl⟩ := hx
      simp only [DataW.weights, hu, List.mem_cons, List.mem_append] at hw
      have hb := hw _ (.inl rfl)
      have hlim : len ≤ LIM := by
        have h1 : len ≤ (elems.length + rest.length) * P.bytesOf e := by
          rw [← hel]
          refine Nat.le_trans ?_ (Nat.mul_le_mul_left _ hA2)
          omega
        simp only [List.length_map] at hb
        simp only [reachBytes, LIM] at *
        omega
      have key : ∀ i, i < len → a.spot = none ∧ a.block < W.heap.size ∧ ∃ x ds, Enc W (GW W) t x ds ∧ cellsAt W a.block (a.off + i * t.sz) ds := by
        have one : ∀ i, i < len → ∃ (ds : List Value) (x : t.D), ds.length = t.sz ∧ Enc W (GW W) t x ds ∧ ∀ j d, ds[j]? = some d → W.cell? ((a.add (i * t.sz)).add j) = some d := by
          intro i hi
          have h0 := hfx i hi
          rw [List.getElem?_eq_getElem (by omega)] at h0
          simp only [Option.bind_eq_some_iff] at h0
          obtain ⟨ds, h1, h2⟩ := h0
          obtain ⟨h3, h4⟩ := cells_row h1
          rw [hTe.size] at h3 h4
          obtain ⟨x, hx⟩ := ih.1 m e ds (elems[i]'(by omega)).1 (elems[i]'(by omega)).2 hTe hA h2 fun k hk => hw k (.inr (.inl (weightsAll_mem (i := i) (by rw [List.getElem?_map, List.getElem?_eq_getElem (by omega)]; rfl) k hk)))
          exact ⟨ds, x, h3, hx, h4⟩
        intro i hi
        obtain ⟨ds, x, h1, h2, h3⟩ := one i hi
        obtain ⟨ds0, _, g1, _, g3⟩ := one 0 (by omega)
        have c0 := g3 0 (ds0[0]'(by omega)) (List.getElem?_eq_getElem _)
        simp only [Nat.zero_mul] at c0
        have e0 : (a.add 0).add 0 = a := by simp [Addr.add]
        rw [e0] at c0
        obtain ⟨hs, hlt⟩ := cell_lt c0
        refine ⟨hs, hlt, x, ds, h2, fun j d hd => ?_⟩
        have := h3 j d hd
        rw [addr_add hs, addr_add rfl] at this
        exact this
      obtain ⟨l, hl1, hl2⟩ := exists_list len (fun i x => ∃ ds, Enc W (GW W) t x ds ∧ cellsAt W a.block (a.off + i * t.sz) ds) fun i hi => (key i hi).2.2
      refine ⟨l, some a, cap, ?_, ?_, ?_, ?_⟩
      · show [Value.slice (some a) len cap] = [Value.slice (some a) l.length cap]; rw [hl1]
      · show l.length ≤ cap; omega
      · show l.length ≤ LIM; omega
      · by_cases h0 : len = 0
        · left; show l = []; exact List.eq_nil_of_length_eq_zero (by omega)
        · obtain ⟨h1, h2, _⟩ := key 0 (by omega)
          exact .inr ⟨a, rfl, h1, h2, hl2⟩
  | opq => exact ⟨fun fuel id cs d p hT hA => by simp [argB] at hA, fun fuel r o cs xs h => (nofld _ (by simp) (by simp) _ _ h).elim⟩
end
theorem val_of_ok {P : Program} {W : World} {rr : Reach} {base : Nat} {id : TypeId} {v : Value} {t : Ty} (hT : TOk P t id) (hne : t ≠ .opq) (h : Value.okWide P W rr base id v) : v = mkV t.isAgg v.cells.toList := by
  have agg : (∃ cs, v = .agg cs) → v = mkV true v.cells.toList := by
    rintro ⟨cs, rfl⟩
    show Value.agg cs = .agg _
    congr 1
  cases t with
  | int k => obtain ⟨n, rfl⟩ := Go.WideShapes.okWide_int hT.2 h; rfl
  | bool => obtain ⟨n, rfl⟩ := Go.WideShapes.okWide_bool hT.2 h; rfl
  | str => obtain ⟨n, rfl⟩ := Go.WideShapes.okWide_string hT.2 h; rfl
  | sl t => obtain ⟨_, e, hu, _⟩ := hT; obtain ⟨a, l, c, rfl⟩ := Go.WideShapes.okWide_slice hu h; rfl
  | opq => exact (hne rfl).elim
  | nil => obtain ⟨_, hu⟩ := hT; simp only [Value.okWide, hu] at h; exact agg ⟨_, h.choose_spec.1⟩
  | cons a b => obtain ⟨_, fs, f, r, hu, _⟩ := hT; simp only [Value.okWide, hu] at h; exact agg ⟨_, h.choose_spec.1⟩
  | arr n t => obtain ⟨_, e, hu, _⟩ := hT; simp only [Value.okWide, hu] at h; exact agg ⟨_, h.choose_spec.1⟩
def Arr.all {X : Type} (p : X → Prop) : (n : Nat) → Arr X n → Prop
  | 0, _ => True
  | n + 1, x => p x.1 ∧ Arr.all p n x.2
def Ty.bd : (t : Ty) → t.D → Prop
  | .str, x => (show List (I .u8) from x).length ≤ LIM
  | .cons a b, x => a.bd x.1 ∧ b.bd x.2
  | .arr n t, x => Arr.all t.bd n x
  | .sl t, x => (show List t.D from x).length ≤ LIM ∧ ∀ (i : Nat) (y : t.D), (show List t.D from x)[i]? = some y → t.bd y
  | .int _, _ => True
  | .bool, _ => True
  | .nil, _ => True
  | .opq, _ => True
theorem EncArr_all {X : Type} {E : X → List Value → Prop} {p : X → Prop} (h : ∀ x cs, E x cs → p x) : ∀ (n : Nat) (x : Arr X n) (cs : List Value), EncArr E n x cs → Arr.all p n x
  | 0, _, _, _ => trivial
  | n + 1, x, cs, he => by
    obtain ⟨c1, c2, _, h1, h2⟩ := he
    exact ⟨h _ _ h1, EncArr_all h n x.2 c2 h2⟩
theorem Enc_bd {W : World} {G : Nat → Prop} : ∀ (t : Ty) (x : t.D) (cs : List Value), Enc W G t x cs → t.bd x := by
  intro t
  induction t with
  | int k => intro x cs _; trivial
  | bool => intro x cs _; trivial
  | nil => intro x cs _; trivial
  | opq => intro x cs _; trivial
  | str => intro x cs h; exact h.2
  | cons a b iha ihb => intro x cs h; obtain ⟨c1, c2, _, h1, h2⟩ := h; exact ⟨iha _ _ h1, ihb _ _ h2⟩
  | arr n t ih => intro x cs h; exact EncArr_all (fun x cs => ih x cs) n x cs h
  | sl t ih =>
    intro x cs h
    obtain ⟨a, c, _, _, hl, hx⟩ := h
    refine ⟨hl, fun i y hy => ?_⟩
    rcases hx with hx | ⟨ad, _, _, _, hr⟩
    · rw [hx] at hy; simp at hy
    · obtain ⟨ds, h1, _⟩ := hr i y hy
      exact ih y ds h1
def bdAll : (ts : List Ty) → ShD (ts.map .pl) → Prop
  | [], _ => True
  | t :: ts, x => t.bd x.1 ∧ bdAll ts x.2
def argsB (P : Program) : List Ty → List TypeId → Bool
  | [], [] => true
  | t :: ts, id :: ids => tokB P t id && (argB P t id && (P.readableRec id && (Nat.blt id P.types.size && argsB P ts ids)))
  | _, _ => false
section
variable {H : Type} {enc : TypeId × Value → H} {P : Program} {W : World}
def cx0 (W : World) : Cx := ⟨W, GW W, fun _ => .bool false, []⟩
theorem args_val {rr : Reach} {base : Nat} : ∀ (ts : List Ty) (ids : List TypeId) (vs : List Value) (ds : List (DataW H)) (ps : List MemPlace), argsB P ts ids = true →
    DataW.TrodAll enc P W 0 (fun _ => true) true ids vs ds ps → (∀ (j : Nat) t v, ids[j]? = some t → vs[j]? = some v → Value.okWide P W rr base t v) →
    (∀ n ∈ DataW.weightsEach P ids ds, n ≤ reachBytes) → ds.length = ts.length ∧ ∃ x : ShD (ts.map .pl), bdAll ts x ∧ All2 (VOk (cx0 W)) (mkSlots (ts.map .pl) x) vs
  | [], [], vs, ds, ps, _, hA, _, _ => by
    obtain ⟨rfl, rfl, rfl⟩ := Go.ChangeShapes.trodAll_nil hA
    exact ⟨rfl, (), trivial, trivial⟩
  | [], _ :: _, _, _, _, h, _, _, _ => by cases h
  | _ :: _, [], _, _, _, h, _, _, _ => by cases h
  | t :: ts, id :: ids, vs, ds, ps, h, hA, hv, hw => by
    simp only [argsB, Bool.and_eq_true] at h
    obtain ⟨h1, h2, _, _, h5⟩ := h
    obtain ⟨v, vs', d, ds', p, q, rfl, rfl, rfl, ⟨fuel, hd⟩, hrest⟩ := Go.ChangeShapes.trodAll_cons hA
    simp only [DataW.weightsEach, List.mem_append] at hw
    have hT := (tok_both P t).1 id h1
    obtain ⟨x, hx⟩ := (enc_of_trod t).1 fuel id _ d p hT h2 hd fun n hn => hw n (.inl hn)
    obtain ⟨hl, y, hbd, hy⟩ := args_val ts ids vs' ds' q h5 hrest (fun j t v ht hv' => hv (j + 1) t v (by simpa using ht) (by simpa using hv')) fun n hn => hw n (.inr hn)
    refine ⟨by simp [hl], (x, y), ⟨Enc_bd t x _ hx, hbd⟩, ?_, hy⟩
    refine ⟨_, hx, ?_⟩
    exact val_of_ok hT (by rintro rfl; simp [argB] at h2) (hv 0 id v rfl rfl)
theorem trodAll_below (hl : laidOutB P = true) {W' : World} (hb : Go.RowKit.Below W.heap.size W W') : ∀ (ts : List Ty) (ids : List TypeId) (vs : List Value) (ds : List (DataW H)) (ps : List MemPlace), argsB P ts ids = true →
    DataW.TrodAll enc P W 0 (fun _ => true) true ids vs ds ps → (∀ x ∈ ps, x.block < W.heap.size) → DataW.TrodAll enc P W' 0 (fun b => decide (b < W.heap.size)) true ids vs ds ps
  | [], [], vs, ds, ps, _, hA, _ => by
    obtain ⟨rfl, rfl, rfl⟩ := Go.ChangeShapes.trodAll_nil hA
    exact Go.ChangeShapes.trodAll_mk0
  | [], _ :: _, _, _, _, h, _, _ => by cases h
  | _ :: _, [], _, _, _, h, _, _ => by cases h
  | t :: ts, id :: ids, vs, ds, ps, h, hA, hlt => by
    simp only [argsB, Bool.and_eq_true] at h
    obtain ⟨_, _, h3, h4, h5⟩ := h
    obtain ⟨v, vs', d, ds', p, q, rfl, rfl, rfl, hd, hrest⟩ := Go.ChangeShapes.trodAll_cons hA
    refine ⟨p, q, Go.RowKit.Below.trod hl h3 (Nat.lt_of_succ_le (Nat.le_of_ble_eq_true h4)) hd hb fun x hx => hlt x (by simp [hx]), ?_, rfl⟩
    exact trodAll_below hl hb ts ids vs' ds' q h5 hrest fun x hx => hlt x (by simp [hx])
theorem start0 : Start (cx0 W) := by
  have hu : ∀ b, blkAt (cx0 W).H b = .unborn := fun b => by simp [cx0, blkAt]
  refine ⟨fun b => ?_, fun b b' r h => ?_, fun r hr => ⟨hr, fun b h => ?_⟩⟩
  · unfold BlkOk; rw [hu]; trivial
  · rw [hu] at h; cases h
  · rw [hu] at h; cases h
theorem row_of_con {C : Checked} {f : FuncId} {fn : Func} {s : ChangeSpec} {ts : List Ty} {bt : TypeId} {F : (⟨ts.map .pl, []⟩ : Tm).D → Option (⟨[.pl .bool], []⟩ : Tm).D}
    (hl : laidOutB C.prog = true) (hfn : C.prog.funcs[f]? = some fn) (hbody : fn.body.isSome = true) (hname : (fn.name == "runtime.NumGoroutine") = false)
    (hargs : argsB C.prog ts fn.params.toList = true) (hres : fn.resultTypes = #[bt]) (hbt : C.prog.underlying bt = some .bool) (hvars : s.vars = [])
    (hs : ∀ ds : List (DataW H), ds.length = ts.length → s.fn H ds = { results := [.lit (.bool true)], args := ds })
    (hcon : ConOk C.prog f ⟨⟨ts.map .pl, []⟩, ⟨[.pl .bool], []⟩, F⟩) (hF : ∀ x, bdAll ts x → F (x, ()) = some ((true, ()), ()))
    (base : Nat) (args : Array Value) (ds gs : List (DataW H)) (before : List MemPlace)
    (hval : ∀ (j : Nat) t v, fn.params[j]? = some t → args[j]? = some v → Value.okWide C.prog W .any base t v)
    (hW : DataW.Whole enc C.prog fn.params.toList s.vars false W args.toList ds gs before)
    (hsz : (DataW.weightsEach C.prog (fn.params.toList ++ s.plain.varTypes C.prog) (ds ++ gs)).all (· ≤ reachBytes) = true) :
    Calls C.prog f args W fun e W' => ∃ v, e = .returned v ∧ s.post enc C.prog fn false true false false W args v W' := by
  have hW' := hW
  obtain ⟨p, q, hA, hV, rfl, hfz, hnd⟩ := hW
  rw [hvars] at hV
  obtain ⟨rfl, rfl⟩ := Go.ChangeShapes.trodVars_none hV
  have hvt : s.plain.varTypes C.prog = [] := by simp [DataSpec.varTypes, ChangeSpec.plain, hvars]
  rw [hvt, List.append_nil, List.append_nil, List.all_eq_true] at hsz
  obtain ⟨hlen, x, hbd, hx⟩ := args_val (P := C.prog) ts fn.params.toList args.toList ds p hargs hA
    (fun j t v h1 h2 => hval j t v (by rw [← Array.getElem?_toList]; exact h1) (by rw [← Array.getElem?_toList]; exact h2)) fun n hn => of_decide_eq_true (hsz n hn)
  have key := hcon (x, ()) ((true, ()), ()) (hF x hbd) (cx0 W) args.toList start0 rfl hx
  rw [Array.toArray_toList] at key
  obtain ⟨b, hb⟩ := Option.isSome_iff_exists.1 hbody
  have hent := run_callFunc (args := args) (w := W) hfn hb hname
  rcases key with ⟨v, w', h1, _⟩ | ⟨_, h⟩
  · change (callFunc f args).run C.prog W = _ at h1
    rw [hent] at h1
    cases h1
  · refine h.mono fun e w' hr => ?_
    obtain ⟨v, he, c', hw, hH, hv, hM, _⟩ := hr
    subst he hw
    refine ⟨v, rfl, ?_⟩
    have hown : ∀ r, ¬ ownOf (cx0 W) r := by
      rintro r ⟨b, hb, _⟩
      simp [cx0, blkAt, live] at hb
    have bel : Go.RowKit.Below W.heap.size W c'.w := ⟨hM.os, hM.tape, hM.output, hM.size, fun k hk => hM.frame k hk (hown k)⟩
    obtain ⟨cs, hcs, hv⟩ := hv
    have hcs : cs = [.bool true] := hcs
    subst hcs
    have hv : v = .bool true := hv
    subst hv
    have hfnH := hs ds hlen
    refine ⟨ds, [], _, [], p, [], hW', ?_, ?_, ?_, bel.frame _, fun h => by cases h⟩
    · rw [List.append_nil, hfnH, hres]
      exact Go.ChangeShapes.trodAll_mk1 (Go.RowKit.shut_bool hbt _)
    · rw [List.append_nil, hfnH]
      refine trodAll_below hl bel ts _ _ _ _ hargs hA fun x hx => ?_
      exact DataW.TrodAll.lt hA x hx
    · rw [List.append_nil, hfnH, hvars]
      rfl
end
end Sym
