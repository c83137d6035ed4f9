/- The given functions as plain functions, as the printer told them. -/
import Derived.Test.YtojogbnepbblgaaGreatPart4
namespace Sym
open Go
noncomputable def KS_00 : List (I .u8) := bytesL [0]
noncomputable def KS_01 : List (I .u8) := bytesL [1]
noncomputable def KS_80 : List (I .u8) := bytesL [128]
abbrev S_api_Account : Type := (I .u64) × (U × ((I .u64) × Unit))
noncomputable abbrev Z_S_api_Account : S_api_Account := ((I.of .u64 0), (Z_U, ((I.of .u64 0), ())))
abbrev S_api_Message : Type := (I .u64) × S_api_Payment
noncomputable abbrev Z_S_api_Message : S_api_Message := ((I.of .u64 0), Z_S_api_Payment)
abbrev S_api_Block : Type := (I .u64) × S_api_Message
noncomputable abbrev Z_S_api_Block : S_api_Block := ((I.of .u64 0), Z_S_api_Message)
abbrev S_A8_intu32 : Type := (I .u32) × ((I .u32) × ((I .u32) × ((I .u32) × ((I .u32) × ((I .u32) × ((I .u32) × ((I .u32) × Unit)))))))
noncomputable abbrev Z_S_A8_intu32 : S_A8_intu32 := ((I.of .u32 0), ((I.of .u32 0), ((I.of .u32 0), ((I.of .u32 0), ((I.of .u32 0), ((I.of .u32 0), ((I.of .u32 0), ((I.of .u32 0), ()))))))))
abbrev S_A4_U : Type := U × (U × (U × (U × Unit)))
noncomputable abbrev Z_S_A4_U : S_A4_U := (Z_U, (Z_U, (Z_U, (Z_U, ()))))
abbrev S_api_Transaction : Type := (I .u64) × ((I .u64) × ((I .u64) × (U × ((I .u64) × (U × (U × ((I .u64) × ((List (I .u8)) × Unit))))))))
abbrev S_pontageref11_Ledger : Type := (List S_api_Account) × (S_A4_U × Unit)
abbrev S_api_Charge : Type := (I .u64) × ((I .u64) × ((I .u64) × ((I .u64) × (Bool × (U × S_A4_U)))))
noncomputable abbrev Z_S_api_Charge : S_api_Charge := ((I.of .u64 0), ((I.of .u64 0), ((I.of .u64 0), ((I.of .u64 0), (false, (Z_U, Z_S_A4_U))))))
abbrev S_A32_intu8 : Type := (I .u8) × ((I .u8) × ((I .u8) × ((I .u8) × ((I .u8) × ((I .u8) × ((I .u8) × ((I .u8) × ((I .u8) × ((I .u8) × ((I .u8) × ((I .u8) × ((I .u8) × ((I .u8) × ((I .u8) × ((I .u8) × ((I .u8) × ((I .u8) × ((I .u8) × ((I .u8) × ((I .u8) × ((I .u8) × ((I .u8) × ((I .u8) × ((I .u8) × ((I .u8) × ((I .u8) × ((I .u8) × ((I .u8) × ((I .u8) × ((I .u8) × ((I .u8) × Unit)))))))))))))))))))))))))))))))
noncomputable abbrev Z_S_A32_intu8 : S_A32_intu8 := ((I.of .u8 0), ((I.of .u8 0), ((I.of .u8 0), ((I.of .u8 0), ((I.of .u8 0), ((I.of .u8 0), ((I.of .u8 0), ((I.of .u8 0), ((I.of .u8 0), ((I.of .u8 0), ((I.of .u8 0), ((I.of .u8 0), ((I.of .u8 0), ((I.of .u8 0), ((I.of .u8 0), ((I.of .u8 0), ((I.of .u8 0), ((I.of .u8 0), ((I.of .u8 0), ((I.of .u8 0), ((I.of .u8 0), ((I.of .u8 0), ((I.of .u8 0), ((I.of .u8 0), ((I.of .u8 0), ((I.of .u8 0), ((I.of .u8 0), ((I.of .u8 0), ((I.of .u8 0), ((I.of .u8 0), ((I.of .u8 0), ((I.of .u8 0), ()))))))))))))))))))))))))))))))))
abbrev S_api_Totals : Type := U × (U × (U × (U × S_A4_U)))
noncomputable abbrev Z_S_api_Totals : S_api_Totals := (Z_U, (Z_U, (Z_U, (Z_U, Z_S_A4_U))))
abbrev S_api_Claim : Type := (I .u64) × ((I .u64) × ((I .u64) × (U × ((List S_A32_intu8) × Unit))))
abbrev S_pontageref25_Escrow : Type := U × ((List S_A32_intu8) × ((List (I .u64)) × ((List S_api_Payment) × Unit)))
abbrev S_api_Receipt : Type := (I .i64) × ((I .i64) × (S_api_Charge × (U × (U × ((I .u64) × (U × (U × ((List S_api_Message) × Unit))))))))
abbrev S_A64_intu32 : Type := (I .u32) × ((I .u32) × ((I .u32) × ((I .u32) × ((I .u32) × ((I .u32) × ((I .u32) × ((I .u32) × ((I .u32) × ((I .u32) × ((I .u32) × ((I .u32) × ((I .u32) × ((I .u32) × ((I .u32) × ((I .u32) × ((I .u32) × ((I .u32) × ((I .u32) × ((I .u32) × ((I .u32) × ((I .u32) × ((I .u32) × ((I .u32) × ((I .u32) × ((I .u32) × ((I .u32) × ((I .u32) × ((I .u32) × ((I .u32) × ((I .u32) × ((I .u32) × ((I .u32) × ((I .u32) × ((I .u32) × ((I .u32) × ((I .u32) × ((I .u32) × ((I .u32) × ((I .u32) × ((I .u32) × ((I .u32) × ((I .u32) × ((I .u32) × ((I .u32) × ((I .u32) × ((I .u32) × ((I .u32) × ((I .u32) × ((I .u32) × ((I .u32) × ((I .u32) × ((I .u32) × ((I .u32) × ((I .u32) × ((I .u32) × S_A8_intu32)))))))))))))))))))))))))))))))))))))))))))))))))))))))
noncomputable abbrev Z_S_A64_intu32 : S_A64_intu32 := ((I.of .u32 0), ((I.of .u32 0), ((I.of .u32 0), ((I.of .u32 0), ((I.of .u32 0), ((I.of .u32 0), ((I.of .u32 0), ((I.of .u32 0), ((I.of .u32 0), ((I.of .u32 0), ((I.of .u32 0), ((I.of .u32 0), ((I.of .u32 0), ((I.of .u32 0), ((I.of .u32 0), ((I.of .u32 0), ((I.of .u32 0), ((I.of .u32 0), ((I.of .u32 0), ((I.of .u32 0), ((I.of .u32 0), ((I.of .u32 0), ((I.of .u32 0), ((I.of .u32 0), ((I.of .u32 0), ((I.of .u32 0), ((I.of .u32 0), ((I.of .u32 0), ((I.of .u32 0), ((I.of .u32 0), ((I.of .u32 0), ((I.of .u32 0), ((I.of .u32 0), ((I.of .u32 0), ((I.of .u32 0), ((I.of .u32 0), ((I.of .u32 0), ((I.of .u32 0), ((I.of .u32 0), ((I.of .u32 0), ((I.of .u32 0), ((I.of .u32 0), ((I.of .u32 0), ((I.of .u32 0), ((I.of .u32 0), ((I.of .u32 0), ((I.of .u32 0), ((I.of .u32 0), ((I.of .u32 0), ((I.of .u32 0), ((I.of .u32 0), ((I.of .u32 0), ((I.of .u32 0), ((I.of .u32 0), ((I.of .u32 0), ((I.of .u32 0), Z_S_A8_intu32))))))))))))))))))))))))))))))))))))))))))))))))))))))))
abbrev S_api_Step : Type := (I .i64) × (S_api_Transaction × (S_api_Message × ((I .u64) × ((I .i64) × (U × ((I .u64) × (S_api_Claim × Unit)))))))
abbrev S_api_State : Type := (I .u64) × (S_api_Params × (S_api_Block × ((I .u64) × (S_api_Pricer × ((List S_api_Account) × (S_A4_U × ((List S_api_Message) × ((List Bool) × (U × ((List S_api_Payment) × Unit))))))))))
abbrev O_pontageref28_Machine : Type := (I .u64) × (S_api_Params × (S_api_Block × ((I .u64) × (S_api_Pricer × (Unit × (Unit × (Unit × Unit)))))))
abbrev O_pontageref11_Ledger : Type := Unit × (S_A4_U × Unit)
abbrev O_pontageref25_Escrow : Type := U × (Unit × (Unit × (Unit × Unit)))
abbrev Y_pontageref31_adding : Ty := .cons (.arr 8 (.sl (.int .i64))) (.cons .bool .nil)
abbrev Y_api_Account : Ty := .cons (.int .u64) (.cons u256 (.cons (.int .u64) .nil))
abbrev Y_api_Message : Ty := .cons (.int .u64) Y_api_Payment
abbrev Y_api_Block : Ty := .cons (.int .u64) Y_api_Message
abbrev Y_pontageref21_Outcome : Ty := .cons (.int .u64) (.cons u256 (.cons (.sl Y_api_Payment) .nil))
abbrev Y_api_Claim : Ty := .cons (.int .u64) (.cons (.int .u64) (.cons (.int .u64) (.cons u256 (.cons (.sl (.arr 32 (.int .u8))) .nil))))
abbrev Y_pontageref11_Ledger : Ty := .cons (.sl Y_api_Account) (.cons (.arr 4 u256) .nil)
abbrev Y_pontageref25_Escrow : Ty := .cons u256 (.cons (.sl (.arr 32 (.int .u8))) (.cons (.sl (.int .u64)) (.cons (.sl Y_api_Payment) .nil)))
abbrev Y_api_Transaction : Ty := .cons (.int .u64) (.cons (.int .u64) (.cons (.int .u64) (.cons u256 (.cons (.int .u64) (.cons u256 (.cons u256 (.cons (.int .u64) (.cons (.sl (.int .u8)) .nil))))))))
abbrev Y_api_Totals : Ty := .cons u256 (.cons u256 (.cons u256 (.cons u256 (.cons u256 (.cons u256 (.cons u256 (.cons u256 .nil)))))))
abbrev Y_api_Charge : Ty := .cons (.int .u64) (.cons (.int .u64) (.cons (.int .u64) (.cons (.int .u64) (.cons .bool (.cons u256 (.cons u256 (.cons u256 (.cons u256 (.cons u256 .nil)))))))))
abbrev Y_api_Receipt : Ty := .cons (.int .i64) (.cons (.int .i64) (.cons Y_api_Charge (.cons u256 (.cons u256 (.cons (.int .u64) (.cons u256 (.cons u256 (.cons (.sl Y_api_Message) .nil))))))))
abbrev Y_api_Step : Ty := .cons (.int .i64) (.cons Y_api_Transaction (.cons Y_api_Message (.cons (.int .u64) (.cons (.int .i64) (.cons u256 (.cons (.int .u64) (.cons Y_api_Claim .nil)))))))
abbrev Y_pontageref28_Machine : Ty := .cons (.int .u64) (.cons Y_api_Params (.cons Y_api_Block (.cons (.int .u64) (.cons Y_api_Pricer (.cons .opq (.cons (.sl Y_api_Message) (.cons .opq .nil)))))))
abbrev Y_api_State : Ty := .cons (.int .u64) (.cons Y_api_Params (.cons Y_api_Block (.cons (.int .u64) (.cons Y_api_Pricer (.cons (.sl Y_api_Account) (.cons (.arr 4 u256) (.cons (.sl Y_api_Message) (.cons (.sl .bool) (.cons u256 (.cons (.sl Y_api_Payment) .nil))))))))))
abbrev H_pontageref28_Machine : List BSh := [.box Y_pontageref28_Machine (.pair (.pl (.int .u64)) (.pair (.pl Y_api_Params) (.pair (.pl Y_api_Block) (.pair (.pl (.int .u64)) (.pair (.pl Y_api_Pricer) (.pair (.ptr 1 []) (.pair (.whole 3) (.pair (.ptr 2 []) (.pl .nil))))))))), .box Y_pontageref11_Ledger (.pair (.whole 4) (.pl (.cons (.arr 4 u256) .nil))), .box Y_pontageref25_Escrow (.pair (.pl u256) (.pair (.whole 5) (.pair (.whole 6) (.pair (.whole 7) (.pl .nil))))), .row Y_api_Message, .row Y_api_Account, .row (.arr 32 (.int .u8)), .row (.int .u64), .row Y_api_Payment]
abbrev H_pontageref25_Escrow : List BSh := [.box Y_pontageref25_Escrow (.pair (.pl u256) (.pair (.whole 1) (.pair (.whole 2) (.pair (.whole 3) (.pl .nil))))), .row (.arr 32 (.int .u8)), .row (.int .u64), .row Y_api_Payment]
abbrev H_pontageref11_Ledger : List BSh := [.box Y_pontageref11_Ledger (.pair (.whole 1) (.pl (.cons (.arr 4 u256) .nil))), .row Y_api_Account]
noncomputable def pontageref12_Genesis (K : Nat) (x : (⟨[], []⟩ : Tm).D) : Option (⟨[.pl Y_api_Params], []⟩ : Tm).D :=
 some ((((I.of .u64 7000000), ((I.of .u64 10), ((I.of .u64 102), (((I.of .u64 100000000), ((I.of .u64 0), ((I.of .u64 0), ((I.of .u64 0), ())))), ((I.of .u64 32000000), (((I.of .u64 60000000), ((I.of .u64 0), ((I.of .u64 0), ((I.of .u64 0), ())))), ((I.of .u64 1000), (((I.of .u64 10), ((I.of .u64 0), ((I.of .u64 0), ((I.of .u64 0), ())))), ((I.of .u64 160000000), ((I.of .u64 10), ((I.of .u64 16), ((I.of .u64 65536), ())))))))))))), ()), ())
noncomputable def pontageref13_rest (K : Nat) (x : (⟨[.pl (.int .u64), .pl (.int .u64), .pl (.int .u64)], []⟩ : Tm).D) : Option (⟨[.pl (.int .u64)], []⟩ : Tm).D :=
 let a : (I .u64) := x.1.1
 let b : (I .u64) := x.1.2.1
 let c : (I .u64) := x.1.2.2.1
 optF (none) (pontageref1_FromUint64 K ((a, ()), ())) fun y0 =>
 optF (none) (pontageref1_FromUint64 K ((b, ()), ())) fun y1 =>
 optF (none) (pontageref1_FromUint64 K ((c, ()), ())) fun y2 =>
 optF (none) (pontageref1_Mul K ((y1.1.1, (y2.1.1, ())), ())) fun y3 =>
 optF (none) (pontageref1_Cmp K ((y0.1.1, (y3.1.1, ())), ())) fun y4 =>
 brn (@I.leb .i64 y4.1.1 (I.of .i64 0))
  (some (((I.of .u64 0), ()), ()))
  (optF (none) (pontageref1_Sub K ((y0.1.1, (y3.1.1, ())), ())) fun y5 =>
  optF (none) (pontageref1_ToUint256 K ((y5.1.1, ()), ())) fun y6 =>
  some ((y6.1.1.1, ()), ()))
noncomputable def pontageref13_Excess (K : Nat) (x : (⟨[.pl (.int .u64), .pl (.int .u64), .pl (.int .u64)], []⟩ : Tm).D) : Option (⟨[.pl (.int .u64)], []⟩ : Tm).D :=
 let a : (I .u64) := x.1.1
 let b : (I .u64) := x.1.2.1
 let c : (I .u64) := x.1.2.2.1
 optF (none) (pontageref13_rest K ((a, (b, (c, ()))), ())) fun y0 =>
 some ((y0.1.1, ()), ())
noncomputable def pontageref14_Exponent (K : Nat) (x : (⟨[.pl (.int .u64), .pl Y_api_Params], []⟩ : Tm).D) : Option (⟨[.pl (.int .u64), .pl (.int .i64)], []⟩ : Tm).D :=
 let a : (I .u64) := x.1.1
 let b : S_api_Params := x.1.2.1
 optF (none) (pontageref12_Valid K ((b, ()), ())) fun y0 =>
 brn (bnot y0.1.1)
  (some (((I.of .u64 0), ((I.of .i64 15), ())), ()))
  (optF (none) (pontageref13_Excess K ((a, (b.1, (b.2.1, ()))), ())) fun y1 =>
  optF (none) (pontageref1_FromUint64 K ((y1.1.1, ()), ())) fun y2 =>
  optF (none) (pontageref1_FromUint64 K (((I.of .u64 10000), ()), ())) fun y3 =>
  optF (none) (pontageref1_Mul K ((y2.1.1, (y3.1.1, ())), ())) fun y4 =>
  optF (none) (pontageref1_FromUint64 K ((b.2.2.1, ()), ())) fun y5 =>
  optF (none) (pontageref1_FromUint64 K ((b.1, ()), ())) fun y6 =>
  optF (none) (pontageref1_Mul K ((y5.1.1, (y6.1.1, ())), ())) fun y7 =>
  optF (none) (pontageref1_Div K ((y4.1.1, (y7.1.1, ())), ())) fun y8 =>
  optF (none) (pontageref1_FromUint64 K (((I.of .u64 200000), ()), ())) fun y9 =>
  optF (none) (pontageref1_Min K ((y8.1.1, (y9.1.1, ())), ())) fun y10 =>
  optF (none) (pontageref1_ToUint256 K ((y10.1.1, ()), ())) fun y11 =>
  some ((y11.1.1.1, ((I.of .i64 0), ())), ()))
noncomputable def pontageref5_Exp (K : Nat) (x : (⟨[.pl (.int .u64), .pl (.int .i64)], []⟩ : Tm).D) : Option (⟨[.pl (.int .u64), .pl (.int .i64)], []⟩ : Tm).D :=
 let a : (I .u64) := x.1.1
 let b : (I .i64) := x.1.2.1
 jn (fun (x0 : (((I .u64) × ((I .i64) × Unit)) × Unit)) =>
   optF (none) (pontageref1_FromUint64 K (((I.of .u64 10000), ()), ())) fun y1 =>
   iter (none) (fun x2 =>
     brn (@I.leb .i64 (I.of .i64 1) x2.1.2.2.1)
      (optF (.done (none)) (pontageref1_FromUint64 K ((x2.1.1, ()), ())) fun y3 =>
      optF (.done (none)) (pontageref1_Mul K ((x2.1.2.1, (y3.1.1, ())), ())) fun y4 =>
      optF (.done (none)) (pontageref1_FromUint64 K (((I.conv (k := .i64) .u64 x2.1.2.2.1), ()), ())) fun y5 =>
      optF (.done (none)) (pontageref1_FromUint64 K (((I.of .u64 10000), ()), ())) fun y6 =>
      optF (.done (none)) (pontageref1_Mul K ((y5.1.1, (y6.1.1, ())), ())) fun y7 =>
      optF (.done (none)) (pontageref1_Div K ((y4.1.1, (y7.1.1, ())), ())) fun y8 =>
      optF (.done (none)) (pontageref1_FromUint64 K (((I.of .u64 10000), ()), ())) fun y9 =>
      optF (.done (none)) (pontageref1_Add K ((y9.1.1, (y8.1.1, ())), ())) fun y10 =>
      .again ((x2.1.1, (y10.1.1, ((@I.sub .i64 x2.1.2.2.1 (I.of .i64 1)), ()))), ()))
      (.done (optF (none) (pontageref1_ToUint256 K ((x2.1.2.1, ()), ())) fun y3 =>
      some ((y3.1.1.1, ((I.of .i64 0), ())), ()))))
   K ((x0.1.1, (y1.1.1, (x0.1.2.1, ()))), ())) fun j0 =>
 brn (@I.ltb .u64 (I.of .u64 200000) a)
  (some (((I.of .u64 0), ((I.of .i64 2), ())), ()))
  (brn (@I.ltb .i64 b (I.of .i64 1))
   (some (((I.of .u64 0), ((I.of .i64 2), ())), ()))
   (brn (@I.ltb .i64 (I.of .i64 20) b)
    (some (((I.of .u64 0), ((I.of .i64 2), ())), ()))
    (j0 ((a, (b, ())), ()))))
noncomputable def pontageref5_Scale (K : Nat) (x : (⟨[.pl u256, .pl (.int .u64)], []⟩ : Tm).D) : Option (⟨[.pl u256, .pl (.int .i64)], []⟩ : Tm).D :=
 let a : U := x.1.1
 let b : (I .u64) := x.1.2.1
 optF (none) (pontageref1_FromUint256 K ((a, ()), ())) fun y0 =>
 optF (none) (pontageref1_FromUint64 K ((b, ()), ())) fun y1 =>
 optF (none) (pontageref1_Mul K ((y0.1.1, (y1.1.1, ())), ())) fun y2 =>
 optF (none) (pontageref1_FromUint64 K (((I.of .u64 10000), ()), ())) fun y3 =>
 optF (none) (pontageref1_Div K ((y2.1.1, (y3.1.1, ())), ())) fun y4 =>
 optF (none) (pontageref1_Checked K ((y4.1.1, ()), ())) fun y5 =>
 some ((y5.1.1, (y5.1.2.1, ())), ())
noncomputable def pontageref5_ScaleExp (K : Nat) (x : (⟨[.pl u256, .pl (.int .u64), .pl (.int .i64)], []⟩ : Tm).D) : Option (⟨[.pl u256, .pl (.int .i64)], []⟩ : Tm).D :=
 let a : U := x.1.1
 let b : (I .u64) := x.1.2.1
 let c : (I .i64) := x.1.2.2.1
 optF (none) (pontageref5_Exp K ((b, (c, ())), ())) fun y0 =>
 brn (@I.neb .i64 y0.1.2.1 (I.of .i64 0))
  (some ((Z_U, (y0.1.2.1, ())), ()))
  (optF (none) (pontageref5_Scale K ((a, (y0.1.1, ())), ())) fun y1 =>
  some ((y1.1.1, (y1.1.2.1, ())), ()))
noncomputable def pontageref14_Fee (K : Nat) (x : (⟨[.pl (.int .u64), .pl Y_api_Params], []⟩ : Tm).D) : Option (⟨[.pl u256, .pl (.int .i64)], []⟩ : Tm).D :=
 let a : (I .u64) := x.1.1
 let b : S_api_Params := x.1.2.1
 optF (none) (pontageref14_Exponent K ((a, (b, ())), ())) fun y0 =>
 brn (@I.neb .i64 y0.1.2.1 (I.of .i64 0))
  (some ((Z_U, (y0.1.2.1, ())), ()))
  (optF (none) (pontageref5_ScaleExp K ((b.2.2.2.1, (y0.1.1, ((I.of .i64 10), ()))), ())) fun y1 =>
  some ((y1.1.1, (y1.1.2.1, ())), ()))
noncomputable def pontageref15_Genesis (K : Nat) (x : (⟨[.pl Y_api_Params], []⟩ : Tm).D) : Option (⟨[.pl Y_api_Block, .pl (.int .i64)], []⟩ : Tm).D :=
 let a : S_api_Params := x.1.1
 optF (none) (pontageref14_Fee K (((I.of .u64 0), (a, ())), ())) fun y0 =>
 brn (@I.neb .i64 y0.1.2.1 (I.of .i64 0))
  (some ((Z_S_api_Block, (y0.1.2.1, ())), ()))
  (some ((((I.of .u64 1), ((I.of .u64 0), ((I.of .u64 0), (y0.1.1, ())))), ((I.of .i64 0), ())), ()))
noncomputable def pontageref11_New (K : Nat) (x : (⟨[], []⟩ : Tm).D) : Option (⟨[.ptr 0 []], H_pontageref11_Ledger⟩ : Tm).D :=
 some ((), (((), (Z_S_A4_U, ())), ([], ())))
noncomputable def pontageref25_New (K : Nat) (x : (⟨[], []⟩ : Tm).D) : Option (⟨[.ptr 0 []], H_pontageref25_Escrow⟩ : Tm).D :=
 some ((), ((Z_U, ((), ((), ((), ())))), ([], ([], ([], ())))))
noncomputable def pontageref28_New (K : Nat) (x : (⟨[], []⟩ : Tm).D) : Option (⟨[.ptr 0 []], H_pontageref28_Machine⟩ : Tm).D :=
 optF (none) (pontageref12_Genesis K ((), ())) fun y0 =>
 optF (none) (pontageref15_Genesis K ((y0.1.1, ()), ())) fun y1 =>
 optF (none) (pontageref21_Genesis K ((), ())) fun y2 =>
 optF (none) (pontageref11_New K ((), ())) fun y3 =>
 optF (none) (pontageref25_New K ((), ())) fun y4 =>
 some ((), (((I.of .u64 0), (y0.1.1, (y1.1.1, ((I.of .u64 0), (y2.1.1, ((), ((), ((), ())))))))), (y3.2.1, (y4.2.1, ([], (y3.2.2.1, (y4.2.2.1, (y4.2.2.2.1, (y4.2.2.2.2.1, ())))))))))
noncomputable def pontagelaw0_SetupSteps (K : Nat) (x : (⟨[], []⟩ : Tm).D) : Option (⟨[.whole 0], [.row Y_api_Step]⟩ : Tm).D :=
 iter (none) (fun (x0 : (((I .u64) × Unit) × ((List S_api_Step) × Unit))) =>
   brn (@I.ltb .u64 x0.1.1 (I.of .u64 5))
    (brn (fitsLen (@lenL S_api_Step (@appL S_api_Step x0.2.1 (((I.of .i64 6), (((I.of .u64 0), ((I.of .u64 0), ((I.of .u64 0), (Z_U, ((I.of .u64 0), (Z_U, (Z_U, ((I.of .u64 0), ([], ()))))))))), (Z_S_api_Message, ((I.of .u64 0), ((I.of .i64 0), (((I.of .u64 288230376151711744), ((I.of .u64 0), ((I.of .u64 0), ((I.of .u64 0), ())))), (x0.1.1, (((I.of .u64 0), ((I.of .u64 0), ((I.of .u64 0), (Z_U, ([], ()))))), ())))))))) :: []))))
     (.again (((@I.add .u64 x0.1.1 (I.of .u64 1)), ()), ((@appL S_api_Step x0.2.1 (((I.of .i64 6), (((I.of .u64 0), ((I.of .u64 0), ((I.of .u64 0), (Z_U, ((I.of .u64 0), (Z_U, (Z_U, ((I.of .u64 0), ([], ()))))))))), (Z_S_api_Message, ((I.of .u64 0), ((I.of .i64 0), (((I.of .u64 288230376151711744), ((I.of .u64 0), ((I.of .u64 0), ((I.of .u64 0), ())))), (x0.1.1, (((I.of .u64 0), ((I.of .u64 0), ((I.of .u64 0), (Z_U, ([], ()))))), ())))))))) :: [])), ())))
     (.done (none)))
    (.done (iter (none) (fun x1 =>
      brn (@I.ltb .u64 x1.1.1 (I.of .u64 8))
       (brn (fitsLen (@lenL S_api_Step (@appL S_api_Step x1.2.1 (((I.of .i64 5), (((I.of .u64 0), ((I.of .u64 0), ((I.of .u64 0), (Z_U, ((I.of .u64 0), (Z_U, (Z_U, ((I.of .u64 0), ([], ()))))))))), (Z_S_api_Message, ((I.of .u64 0), ((I.of .i64 0), (Z_U, (x1.1.1, (((I.of .u64 0), ((I.of .u64 0), ((I.of .u64 0), (Z_U, ([], ()))))), ())))))))) :: []))))
        (.again (((@I.add .u64 x1.1.1 (I.of .u64 1)), ()), ((@appL S_api_Step x1.2.1 (((I.of .i64 5), (((I.of .u64 0), ((I.of .u64 0), ((I.of .u64 0), (Z_U, ((I.of .u64 0), (Z_U, (Z_U, ((I.of .u64 0), ([], ()))))))))), (Z_S_api_Message, ((I.of .u64 0), ((I.of .i64 0), (Z_U, (x1.1.1, (((I.of .u64 0), ((I.of .u64 0), ((I.of .u64 0), (Z_U, ([], ()))))), ())))))))) :: [])), ())))
        (.done (none)))
       (.done (brn (fitsLen (@lenL S_api_Step (@appL S_api_Step x1.2.1 (((I.of .i64 3), (((I.of .u64 0), ((I.of .u64 0), ((I.of .u64 0), (Z_U, ((I.of .u64 0), (Z_U, (Z_U, ((I.of .u64 0), ([], ()))))))))), (Z_S_api_Message, ((I.of .u64 12), ((I.of .i64 0), (Z_U, ((I.of .u64 0), (((I.of .u64 0), ((I.of .u64 0), ((I.of .u64 0), (Z_U, ([], ()))))), ())))))))) :: []))))
        (some ((), ((@appL S_api_Step x1.2.1 (((I.of .i64 3), (((I.of .u64 0), ((I.of .u64 0), ((I.of .u64 0), (Z_U, ((I.of .u64 0), (Z_U, (Z_U, ((I.of .u64 0), ([], ()))))))))), (Z_S_api_Message, ((I.of .u64 12), ((I.of .i64 0), (Z_U, ((I.of .u64 0), (((I.of .u64 0), ((I.of .u64 0), ((I.of .u64 0), (Z_U, ([], ()))))), ())))))))) :: [])), ())))
        (none))))
    K (((I.of .u64 5), ()), (x0.2.1, ())))))
 K (((I.of .u64 1), ()), ([], ()))
noncomputable def pontageref26_ValidKind (K : Nat) (x : (⟨[.pl (.int .i64)], []⟩ : Tm).D) : Option (⟨[.pl .bool], []⟩ : Tm).D :=
 let a : (I .i64) := x.1.1
 brn (@I.leb .i64 (I.of .i64 1) a)
  (some (((@I.leb .i64 a (I.of .i64 7)), ()), ()))
  (some ((false, ()), ()))
noncomputable def pontageref11_Ledger_at (K : Nat) (x : (⟨[.bp Y_pontageref11_Ledger, .pl (.int .u64)], []⟩ : Tm).D) : Option (⟨[.pl (.int .i64)], []⟩ : Tm).D :=
 let a : S_pontageref11_Ledger := x.1.1
 let b : (I .u64) := x.1.2.1
 iter (none) (fun x0 =>
   brn (@I.ltb .i64 x0.1.2.2.1 (I.ofNat .i64 (@lenL S_api_Account x0.1.1.1)))
    (brn (@inB .i64 x0.1.2.2.1 (@lenL S_api_Account x0.1.1.1))
     (brn (@I.eqb .u64 (@rdL S_api_Account Z_S_api_Account x0.1.1.1 (@I.nat .i64 x0.1.2.2.1)).1 x0.1.2.1)
      (.done (some ((x0.1.2.2.1, ()), ())))
      (.again ((x0.1.1, (x0.1.2.1, ((@I.add .i64 x0.1.2.2.1 (I.of .i64 1)), ()))), ())))
     (.done (none)))
    (.done (some (((I.of .i64 (-1)), ()), ()))))
 K ((a, (b, ((I.of .i64 0), ()))), ())
noncomputable def pontageref11_Ledger_Get (K : Nat) (x : (⟨[.bp Y_pontageref11_Ledger, .pl (.int .u64)], []⟩ : Tm).D) : Option (⟨[.pl Y_api_Account], []⟩ : Tm).D :=
 let a : S_pontageref11_Ledger := x.1.1
 let b : (I .u64) := x.1.2.1
 optF (none) (pontageref11_Ledger_at K ((a, (b, ())), ())) fun y0 =>
 brn (@I.leb .i64 (I.of .i64 0) y0.1.1)
  (brn (@inB .i64 y0.1.1 (@lenL S_api_Account a.1))
   (some (((@rdL S_api_Account Z_S_api_Account a.1 (@I.nat .i64 y0.1.1)), ()), ()))
   (none))
  (some (((b, (Z_U, ((I.of .u64 0), ()))), ()), ()))
noncomputable def pontageref15_GasRemaining (K : Nat) (x : (⟨[.pl Y_api_Block, .pl Y_api_Params], []⟩ : Tm).D) : Option (⟨[.pl (.int .u64)], []⟩ : Tm).D :=
 let a : S_api_Block := x.1.1
 let b : S_api_Params := x.1.2.1
 brn (@I.ltb .u64 b.2.2.2.2.1 a.2.2.1)
  (some (((I.of .u64 0), ()), ()))
  (some (((@I.sub .u64 b.2.2.2.2.1 a.2.2.1), ()), ()))
noncomputable def pontageref28_Machine_check (K : Nat) (x : (⟨[.ptr 0 [], .pl Y_api_Transaction], H_pontageref28_Machine⟩ : Tm).D) : Option (⟨[.pl u256, .pl (.int .i64)], H_pontageref28_Machine⟩ : Tm).D :=
 let a : S_api_Transaction := x.1.1
 let h0 : O_pontageref28_Machine := x.2.1
 let h1 : O_pontageref11_Ledger := x.2.2.1
 let h2 : O_pontageref25_Escrow := x.2.2.2.1
 let h3 : (List S_api_Message) := x.2.2.2.2.1
 let h4 : (List S_api_Account) := x.2.2.2.2.2.1
 let h5 : (List S_A32_intu8) := x.2.2.2.2.2.2.1
 let h6 : (List (I .u64)) := x.2.2.2.2.2.2.2.1
 let h7 : (List S_api_Payment) := x.2.2.2.2.2.2.2.2.1
 brn (@I.ltb .i64 (I.of .i64 4096) (I.ofNat .i64 (@lenL (I .u8) a.2.2.2.2.2.2.2.2.1)))
  (some ((Z_U, ((I.of .i64 6), ())), (h0, (h1, (h2, (h3, (h4, (h5, (h6, (h7, ()))))))))))
  (jn (fun (x0 : (Unit × (O_pontageref28_Machine × (O_pontageref11_Ledger × ((List S_api_Account) × ((List S_api_Message) × (O_pontageref25_Escrow × ((List S_A32_intu8) × ((List (I .u64)) × ((List S_api_Payment) × (S_api_Transaction × (U × (U × Unit))))))))))))) =>
    optF (none) (pontageref11_Ledger_Get K (((x0.2.2.2.1, x0.2.2.1.2), (x0.2.2.2.2.2.2.2.2.2.1.1, ())), ())) fun y1 =>
    brn (@I.neb .u64 x0.2.2.2.2.2.2.2.2.2.1.2.1 y1.1.1.2.2.1)
     (some ((x0.2.2.2.2.2.2.2.2.2.2.2.1, ((I.of .i64 11), ())), (x0.2.1, (x0.2.2.1, (x0.2.2.2.2.2.1, (x0.2.2.2.2.1, (x0.2.2.2.1, (x0.2.2.2.2.2.2.1, (x0.2.2.2.2.2.2.2.1, (x0.2.2.2.2.2.2.2.2.1, ()))))))))))
     (brn (@I.eqb .u64 (@I.add .u64 y1.1.1.2.2.1 (I.of .u64 1)) (I.of .u64 0))
      (some ((x0.2.2.2.2.2.2.2.2.2.2.2.1, ((I.of .i64 4), ())), (x0.2.1, (x0.2.2.1, (x0.2.2.2.2.2.1, (x0.2.2.2.2.1, (x0.2.2.2.1, (x0.2.2.2.2.2.2.1, (x0.2.2.2.2.2.2.2.1, (x0.2.2.2.2.2.2.2.2.1, ()))))))))))
      (optF (none) (pontageref23_GasPrice K ((x0.2.2.2.2.2.2.2.2.2.1, (x0.2.1.2.2.1.2.2.2.1, ())), ())) fun y2 =>
      brn (@I.neb .i64 y2.1.2.1 (I.of .i64 0))
       (some ((x0.2.2.2.2.2.2.2.2.2.2.2.1, (y2.1.2.1, ())), (x0.2.1, (x0.2.2.1, (x0.2.2.2.2.2.1, (x0.2.2.2.2.1, (x0.2.2.2.1, (x0.2.2.2.2.2.2.1, (x0.2.2.2.2.2.2.2.1, (x0.2.2.2.2.2.2.2.2.1, ()))))))))))
       (optF (none) (pontageref15_GasRemaining K ((x0.2.1.2.2.1, (x0.2.1.2.1, ())), ())) fun y3 =>
       brn (@I.ltb .u64 y3.1.1 x0.2.2.2.2.2.2.2.2.2.1.2.2.2.2.1)
        (some ((x0.2.2.2.2.2.2.2.2.2.2.2.1, ((I.of .i64 13), ())), (x0.2.1, (x0.2.2.1, (x0.2.2.2.2.2.1, (x0.2.2.2.2.1, (x0.2.2.2.1, (x0.2.2.2.2.2.2.1, (x0.2.2.2.2.2.2.2.1, (x0.2.2.2.2.2.2.2.2.1, ()))))))))))
        (optF (none) (pontageref23_Covers K ((x0.2.2.2.2.2.2.2.2.2.1, (y2.1.1, (y1.1.1.2.1, ()))), ())) fun y4 =>
        brn (bnot y4.1.1)
         (some ((x0.2.2.2.2.2.2.2.2.2.2.2.1, ((I.of .i64 10), ())), (x0.2.1, (x0.2.2.1, (x0.2.2.2.2.2.1, (x0.2.2.2.2.1, (x0.2.2.2.1, (x0.2.2.2.2.2.2.1, (x0.2.2.2.2.2.2.2.1, (x0.2.2.2.2.2.2.2.2.1, ()))))))))))
         (some ((y2.1.1, ((I.of .i64 0), ())), (x0.2.1, (x0.2.2.1, (x0.2.2.2.2.2.1, (x0.2.2.2.2.1, (x0.2.2.2.1, (x0.2.2.2.2.2.2.1, (x0.2.2.2.2.2.2.2.1, (x0.2.2.2.2.2.2.2.2.1, ()))))))))))))))) fun j0 =>
  brn (@I.eqb .u64 a.1 (I.of .u64 0))
   (some ((Z_U, ((I.of .i64 2), ())), (h0, (h1, (h2, (h3, (h4, (h5, (h6, (h7, ()))))))))))
   (brn (@I.eqb .u64 a.2.2.1 (I.of .u64 0))
    (some ((Z_U, ((I.of .i64 2), ())), (h0, (h1, (h2, (h3, (h4, (h5, (h6, (h7, ()))))))))))
    (brn (@I.eqb .u64 a.1 (I.of .u64 18446744073709551615))
     (some ((Z_U, ((I.of .i64 2), ())), (h0, (h1, (h2, (h3, (h4, (h5, (h6, (h7, ()))))))))))
     (j0 ((), (h0, (h1, (h4, (h3, (h2, (h5, (h6, (h7, (a, (Z_U, (Z_U, ()))))))))))))))))
noncomputable def pontageref11_Ledger_put (K : Nat) (x : (⟨[.ptr 0 [], .pl Y_api_Account], H_pontageref11_Ledger⟩ : Tm).D) : Option (⟨[], H_pontageref11_Ledger⟩ : Tm).D :=
 let a : S_api_Account := x.1.1
 let h0 : O_pontageref11_Ledger := x.2.1
 let h1 : (List S_api_Account) := x.2.2.1
 optF (none) (pontageref11_Ledger_at K (((h1, h0.2), (a.1, ())), ())) fun y0 =>
 brn (@I.leb .i64 (I.of .i64 0) y0.1.1)
  (brn (@inB .i64 y0.1.1 (@lenL S_api_Account h1))
   (some ((), (h0, ((@setL S_api_Account h1 (@I.nat .i64 y0.1.1) a), ()))))
   (none))
  (brn (fitsLen (@lenL S_api_Account (@appL S_api_Account h1 (a :: []))))
   (some ((), (h0, ((@appL S_api_Account h1 (a :: [])), ()))))
   (none))
noncomputable def pontageref11_Ledger_debit (K : Nat) (x : (⟨[.ptr 0 [], .pl (.int .u64), .pl u256], H_pontageref11_Ledger⟩ : Tm).D) : Option (⟨[.pl .bool], H_pontageref11_Ledger⟩ : Tm).D :=
 let a : (I .u64) := x.1.1
 let b : U := x.1.2.1
 let h0 : O_pontageref11_Ledger := x.2.1
 let h1 : (List S_api_Account) := x.2.2.1
 optF (none) (pontageref11_Ledger_Get K (((h1, h0.2), (a, ())), ())) fun y0 =>
 optF (none) (pontageref1_Sub256 K ((y0.1.1.2.1, (b, ())), ())) fun y1 =>
 brn (@I.neb .i64 y1.1.2.1 (I.of .i64 0))
  (some ((false, ()), (h0, (h1, ()))))
  (optF (none) (pontageref11_Ledger_put K (((y0.1.1.1, (y1.1.1, y0.1.1.2.2)), ()), (h0, (h1, ())))) fun y2 =>
  some ((true, ()), (y2.2.1, (y2.2.2.1, ()))))
noncomputable def pontageref11_Ledger_PayVault (K : Nat) (x : (⟨[.ptr 0 [], .pl (.int .u64), .pl (.int .i64), .pl u256], H_pontageref11_Ledger⟩ : Tm).D) : Option (⟨[.pl (.int .i64)], H_pontageref11_Ledger⟩ : Tm).D :=
 let a : (I .u64) := x.1.1
 let b : (I .i64) := x.1.2.1
 let c : U := x.1.2.2.1
 let h0 : O_pontageref11_Ledger := x.2.1
 let h1 : (List S_api_Account) := x.2.2.1
 jn (fun (x0 : (((I .u64) × ((I .i64) × Unit)) × (O_pontageref11_Ledger × ((List S_api_Account) × (U × Unit))))) =>
   optF (none) (pontageref11_Ledger_debit K ((x0.1.1, (x0.2.2.2.1, ())), (x0.2.1, (x0.2.2.1, ())))) fun y1 =>
   brn (bnot y1.1.1)
    (some (((I.of .i64 10), ()), (y1.2.1, (y1.2.2.1, ()))))
    (brn (@inB .i64 (@I.sub .i64 x0.1.2.1 (I.of .i64 1)) 4)
     (optF (none) (pontageref1_FromUint256 K (((@Arr.sel U Z_U 4 y1.2.1.2.1 (@I.nat .i64 (@I.sub .i64 x0.1.2.1 (I.of .i64 1)))), ()), ())) fun y2 =>
     optF (none) (pontageref1_FromUint256 K ((x0.2.2.2.1, ()), ())) fun y3 =>
     optF (none) (pontageref1_Add K ((y2.1.1, (y3.1.1, ())), ())) fun y4 =>
     optF (none) (pontageref1_ToUint256 K ((y4.1.1, ()), ())) fun y5 =>
     brn (@inB .i64 (@I.sub .i64 x0.1.2.1 (I.of .i64 1)) 4)
      (some (((I.of .i64 0), ()), (((), ((@Arr.upd U 4 y1.2.1.2.1 (@I.nat .i64 (@I.sub .i64 x0.1.2.1 (I.of .i64 1))) y5.1.1), y1.2.1.2.2)), (y1.2.2.1, ()))))
      (none))
     (none))) fun j0 =>
 brn (@I.eqb .u64 a (I.of .u64 0))
  (some (((I.of .i64 2), ()), (h0, (h1, ()))))
  (brn (@I.ltb .i64 b (I.of .i64 1))
   (some (((I.of .i64 2), ()), (h0, (h1, ()))))
   (brn (@I.ltb .i64 (I.of .i64 4) b)
    (some (((I.of .i64 2), ()), (h0, (h1, ()))))
    (j0 ((a, (b, ())), (h0, (h1, (c, ())))))))
noncomputable def pontageref11_Ledger_IncrementNonce (K : Nat) (x : (⟨[.ptr 0 [], .pl (.int .u64)], H_pontageref11_Ledger⟩ : Tm).D) : Option (⟨[.pl (.int .i64)], H_pontageref11_Ledger⟩ : Tm).D :=
 let a : (I .u64) := x.1.1
 let h0 : O_pontageref11_Ledger := x.2.1
 let h1 : (List S_api_Account) := x.2.2.1
 brn (@I.eqb .u64 a (I.of .u64 0))
  (some (((I.of .i64 2), ()), (h0, (h1, ()))))
  (optF (none) (pontageref11_Ledger_Get K (((h1, h0.2), (a, ())), ())) fun y0 =>
  brn (@I.eqb .u64 (@I.add .u64 y0.1.1.2.2.1 (I.of .u64 1)) (I.of .u64 0))
   (some (((I.of .i64 4), ()), (h0, (h1, ()))))
   (optF (none) (pontageref11_Ledger_put K (((y0.1.1.1, (y0.1.1.2.1, ((@I.add .u64 y0.1.1.2.2.1 (I.of .u64 1)), y0.1.1.2.2.2))), ()), (h0, (h1, ())))) fun y1 =>
   some (((I.of .i64 0), ()), (y1.2.1, (y1.2.2.1, ())))))
noncomputable def pontageref13_Add (K : Nat) (x : (⟨[.pl (.int .u64), .pl (.int .u64)], []⟩ : Tm).D) : Option (⟨[.pl (.int .u64)], []⟩ : Tm).D :=
 let a : (I .u64) := x.1.1
 let b : (I .u64) := x.1.2.1
 optF (none) (pontageref1_FromUint64 K ((a, ()), ())) fun y0 =>
 optF (none) (pontageref1_FromUint64 K ((b, ()), ())) fun y1 =>
 optF (none) (pontageref1_Add K ((y0.1.1, (y1.1.1, ())), ())) fun y2 =>
 optF (none) (pontageref1_ToUint256 K ((y2.1.1, ()), ())) fun y3 =>
 optF (none) (pontageref1_Uint64 K ((y3.1.1, ()), ())) fun y4 =>
 brn (bnot y4.1.2.1)
  (some (((I.of .u64 18446744073709551615), ()), ()))
  (some ((y4.1.1, ()), ()))
noncomputable def pontageref11_Ledger_credit (K : Nat) (x : (⟨[.ptr 0 [], .pl (.int .u64), .pl u256], H_pontageref11_Ledger⟩ : Tm).D) : Option (⟨[], H_pontageref11_Ledger⟩ : Tm).D :=
 let a : (I .u64) := x.1.1
 let b : U := x.1.2.1
 let h0 : O_pontageref11_Ledger := x.2.1
 let h1 : (List S_api_Account) := x.2.2.1
 optF (none) (pontageref11_Ledger_Get K (((h1, h0.2), (a, ())), ())) fun y0 =>
 optF (none) (pontageref1_FromUint256 K ((y0.1.1.2.1, ()), ())) fun y1 =>
 optF (none) (pontageref1_FromUint256 K ((b, ()), ())) fun y2 =>
 optF (none) (pontageref1_Add K ((y1.1.1, (y2.1.1, ())), ())) fun y3 =>
 optF (none) (pontageref1_ToUint256 K ((y3.1.1, ()), ())) fun y4 =>
 optF (none) (pontageref11_Ledger_put K (((y0.1.1.1, (y4.1.1, y0.1.1.2.2)), ()), (h0, (h1, ())))) fun y5 =>
 some ((), (y5.2.1, (y5.2.2.1, ())))
noncomputable def pontageref11_Ledger_Transfer (K : Nat) (x : (⟨[.ptr 0 [], .pl (.int .u64), .pl (.int .u64), .pl u256], H_pontageref11_Ledger⟩ : Tm).D) : Option (⟨[.pl (.int .i64)], H_pontageref11_Ledger⟩ : Tm).D :=
 let a : (I .u64) := x.1.1
 let b : (I .u64) := x.1.2.1
 let c : U := x.1.2.2.1
 let h0 : O_pontageref11_Ledger := x.2.1
 let h1 : (List S_api_Account) := x.2.2.1
 jn (fun (x0 : (((I .u64) × ((I .u64) × Unit)) × (O_pontageref11_Ledger × ((List S_api_Account) × (U × Unit))))) =>
   optF (none) (pontageref11_Ledger_debit K ((x0.1.1, (x0.2.2.2.1, ())), (x0.2.1, (x0.2.2.1, ())))) fun y1 =>
   brn (bnot y1.1.1)
    (some (((I.of .i64 10), ()), (y1.2.1, (y1.2.2.1, ()))))
    (optF (none) (pontageref11_Ledger_credit K ((x0.1.2.1, (x0.2.2.2.1, ())), (y1.2.1, (y1.2.2.1, ())))) fun y2 =>
    some (((I.of .i64 0), ()), (y2.2.1, (y2.2.2.1, ()))))) fun j0 =>
 brn (@I.eqb .u64 a (I.of .u64 0))
  (some (((I.of .i64 2), ()), (h0, (h1, ()))))
  (brn (@I.eqb .u64 b (I.of .u64 0))
   (some (((I.of .i64 2), ()), (h0, (h1, ()))))
   (j0 ((a, (b, ())), (h0, (h1, (c, ()))))))
noncomputable def pontageref11_Ledger_Withdraw (K : Nat) (x : (⟨[.ptr 0 [], .pl (.int .u64), .pl u256], H_pontageref11_Ledger⟩ : Tm).D) : Option (⟨[.pl (.int .i64)], H_pontageref11_Ledger⟩ : Tm).D :=
 let a : (I .u64) := x.1.1
 let b : U := x.1.2.1
 let h0 : O_pontageref11_Ledger := x.2.1
 let h1 : (List S_api_Account) := x.2.2.1
 brn (@I.eqb .u64 a (I.of .u64 0))
  (some (((I.of .i64 2), ()), (h0, (h1, ()))))
  (optF (none) (pontageref11_Ledger_debit K ((a, (b, ())), (h0, (h1, ())))) fun y0 =>
  brn (bnot y0.1.1)
   (some (((I.of .i64 10), ()), (y0.2.1, (y0.2.2.1, ()))))
   (some (((I.of .i64 0), ()), (y0.2.1, (y0.2.2.1, ())))))
noncomputable def pontageref7_words (K : Nat) (x : (⟨[], []⟩ : Tm).D) : Option (⟨[.pl (.arr 64 (.int .u32))], []⟩ : Tm).D :=
 some ((((I.of .u32 1116352408), ((I.of .u32 1899447441), ((I.of .u32 3049323471), ((I.of .u32 3921009573), ((I.of .u32 961987163), ((I.of .u32 1508970993), ((I.of .u32 2453635748), ((I.of .u32 2870763221), ((I.of .u32 3624381080), ((I.of .u32 310598401), ((I.of .u32 607225278), ((I.of .u32 1426881987), ((I.of .u32 1925078388), ((I.of .u32 2162078206), ((I.of .u32 2614888103), ((I.of .u32 3248222580), ((I.of .u32 3835390401), ((I.of .u32 4022224774), ((I.of .u32 264347078), ((I.of .u32 604807628), ((I.of .u32 770255983), ((I.of .u32 1249150122), ((I.of .u32 1555081692), ((I.of .u32 1996064986), ((I.of .u32 2554220882), ((I.of .u32 2821834349), ((I.of .u32 2952996808), ((I.of .u32 3210313671), ((I.of .u32 3336571891), ((I.of .u32 3584528711), ((I.of .u32 113926993), ((I.of .u32 338241895), ((I.of .u32 666307205), ((I.of .u32 773529912), ((I.of .u32 1294757372), ((I.of .u32 1396182291), ((I.of .u32 1695183700), ((I.of .u32 1986661051), ((I.of .u32 2177026350), ((I.of .u32 2456956037), ((I.of .u32 2730485921), ((I.of .u32 2820302411), ((I.of .u32 3259730800), ((I.of .u32 3345764771), ((I.of .u32 3516065817), ((I.of .u32 3600352804), ((I.of .u32 4094571909), ((I.of .u32 275423344), ((I.of .u32 430227734), ((I.of .u32 506948616), ((I.of .u32 659060556), ((I.of .u32 883997877), ((I.of .u32 958139571), ((I.of .u32 1322822218), ((I.of .u32 1537002063), ((I.of .u32 1747873779), ((I.of .u32 1955562222), ((I.of .u32 2024104815), ((I.of .u32 2227730452), ((I.of .u32 2361852424), ((I.of .u32 2428436474), ((I.of .u32 2756734187), ((I.of .u32 3204031479), ((I.of .u32 3329325298), ())))))))))))))))))))))))))))))))))))))))))))))))))))))))))))))))), ()), ())
noncomputable def pontageref7_right (K : Nat) (x : (⟨[.pl (.int .u32), .pl (.int .u64)], []⟩ : Tm).D) : Option (⟨[.pl (.int .u32)], []⟩ : Tm).D :=
 let a : (I .u32) := x.1.1
 let b : (I .u64) := x.1.2.1
 brn (@I.nn .u64 b)
  (brn (@I.nn .u64 (@I.sub .u64 (I.of .u64 32) b))
   (some (((@I.or .u32 (@I.shr .u32 .u64 a b) (@I.shl .u32 .u64 a (@I.sub .u64 (I.of .u64 32) b))), ()), ()))
   (none))
  (none)
noncomputable def pontageref7_block (K : Nat) (x : (⟨[.pl (.arr 8 (.int .u32)), .pl (.sl (.int .u8))], []⟩ : Tm).D) : Option (⟨[.pl (.arr 8 (.int .u32))], []⟩ : Tm).D :=
 let a : S_A8_intu32 := x.1.1
 let b : (List (I .u8)) := x.1.2.1
 optF (none) (pontageref7_words K ((), ())) fun y0 =>
 iter (none) (fun x1 =>
   brn (@I.ltb .i64 x1.1.2.1 (I.of .i64 64))
    (brn (@I.ltb .i64 x1.1.2.1 (I.of .i64 16))
     (brn (@inB .i64 (@I.mul .i64 (I.of .i64 4) x1.1.2.1) (@lenL (I .u8) x1.1.1))
      (brn (@inB .i64 (@I.add .i64 (@I.mul .i64 (I.of .i64 4) x1.1.2.1) (I.of .i64 1)) (@lenL (I .u8) x1.1.1))
       (brn (@inB .i64 (@I.add .i64 (@I.mul .i64 (I.of .i64 4) x1.1.2.1) (I.of .i64 2)) (@lenL (I .u8) x1.1.1))
        (brn (@inB .i64 (@I.add .i64 (@I.mul .i64 (I.of .i64 4) x1.1.2.1) (I.of .i64 3)) (@lenL (I .u8) x1.1.1))
         (brn (@inB .i64 x1.1.2.1 64)
          (.again ((x1.1.1, ((@I.add .i64 x1.1.2.1 (I.of .i64 1)), ())), (x1.2.1, (x1.2.2.1, (x1.2.2.2.1, ((@Arr.upd (I .u32) 64 x1.2.2.2.2.1 (@I.nat .i64 x1.1.2.1) (@I.add .u32 (@I.add .u32 (@I.add .u32 (@I.shl .u32 .u64 (I.conv (k := .u8) .u32 (@rdL (I .u8) (I.of .u8 0) x1.1.1 (@I.nat .i64 (@I.mul .i64 (I.of .i64 4) x1.1.2.1)))) (I.of .u64 24)) (@I.shl .u32 .u64 (I.conv (k := .u8) .u32 (@rdL (I .u8) (I.of .u8 0) x1.1.1 (@I.nat .i64 (@I.add .i64 (@I.mul .i64 (I.of .i64 4) x1.1.2.1) (I.of .i64 1))))) (I.of .u64 16))) (@I.shl .u32 .u64 (I.conv (k := .u8) .u32 (@rdL (I .u8) (I.of .u8 0) x1.1.1 (@I.nat .i64 (@I.add .i64 (@I.mul .i64 (I.of .i64 4) x1.1.2.1) (I.of .i64 2))))) (I.of .u64 8))) (I.conv (k := .u8) .u32 (@rdL (I .u8) (I.of .u8 0) x1.1.1 (@I.nat .i64 (@I.add .i64 (@I.mul .i64 (I.of .i64 4) x1.1.2.1) (I.of .i64 3))))))), ()))))))
          (.done (none)))
         (.done (none)))
        (.done (none)))
       (.done (none)))
      (.done (none)))
     (brn (@inB .i64 (@I.sub .i64 x1.1.2.1 (I.of .i64 15)) 64)
      (brn (@inB .i64 (@I.sub .i64 x1.1.2.1 (I.of .i64 2)) 64)
       (brn (@inB .i64 (@I.sub .i64 x1.1.2.1 (I.of .i64 16)) 64)
        (optF (.done (none)) (pontageref7_right K (((@Arr.sel (I .u32) (I.of .u32 0) 64 x1.2.2.2.2.1 (@I.nat .i64 (@I.sub .i64 x1.1.2.1 (I.of .i64 15)))), ((I.of .u64 7), ())), ())) fun y2 =>
        optF (.done (none)) (pontageref7_right K (((@Arr.sel (I .u32) (I.of .u32 0) 64 x1.2.2.2.2.1 (@I.nat .i64 (@I.sub .i64 x1.1.2.1 (I.of .i64 15)))), ((I.of .u64 18), ())), ())) fun y3 =>
        brn (@inB .i64 (@I.sub .i64 x1.1.2.1 (I.of .i64 7)) 64)
         (optF (.done (none)) (pontageref7_right K (((@Arr.sel (I .u32) (I.of .u32 0) 64 x1.2.2.2.2.1 (@I.nat .i64 (@I.sub .i64 x1.1.2.1 (I.of .i64 2)))), ((I.of .u64 17), ())), ())) fun y4 =>
         optF (.done (none)) (pontageref7_right K (((@Arr.sel (I .u32) (I.of .u32 0) 64 x1.2.2.2.2.1 (@I.nat .i64 (@I.sub .i64 x1.1.2.1 (I.of .i64 2)))), ((I.of .u64 19), ())), ())) fun y5 =>
         brn (@inB .i64 x1.1.2.1 64)
          (.again ((x1.1.1, ((@I.add .i64 x1.1.2.1 (I.of .i64 1)), ())), (x1.2.1, (x1.2.2.1, (x1.2.2.2.1, ((@Arr.upd (I .u32) 64 x1.2.2.2.2.1 (@I.nat .i64 x1.1.2.1) (@I.add .u32 (@I.add .u32 (@I.add .u32 (@Arr.sel (I .u32) (I.of .u32 0) 64 x1.2.2.2.2.1 (@I.nat .i64 (@I.sub .i64 x1.1.2.1 (I.of .i64 16)))) (@I.xor .u32 (@I.xor .u32 y2.1.1 y3.1.1) (@I.shr .u32 .u64 (@Arr.sel (I .u32) (I.of .u32 0) 64 x1.2.2.2.2.1 (@I.nat .i64 (@I.sub .i64 x1.1.2.1 (I.of .i64 15)))) (I.of .u64 3)))) (@Arr.sel (I .u32) (I.of .u32 0) 64 x1.2.2.2.2.1 (@I.nat .i64 (@I.sub .i64 x1.1.2.1 (I.of .i64 7))))) (@I.xor .u32 (@I.xor .u32 y4.1.1 y5.1.1) (@I.shr .u32 .u64 (@Arr.sel (I .u32) (I.of .u32 0) 64 x1.2.2.2.2.1 (@I.nat .i64 (@I.sub .i64 x1.1.2.1 (I.of .i64 2)))) (I.of .u64 10))))), ()))))))
          (.done (none)))
         (.done (none)))
        (.done (none)))
       (.done (none)))
      (.done (none))))
    (.done (iter (none) (fun x2 =>
      brn (@I.ltb .i64 x2.1.1 (I.of .i64 64))
       (optF (.done (none)) (pontageref7_right K ((x2.2.2.2.2.2.1.2.2.2.2.1, ((I.of .u64 6), ())), ())) fun y3 =>
       optF (.done (none)) (pontageref7_right K ((x2.2.2.2.2.2.1.2.2.2.2.1, ((I.of .u64 11), ())), ())) fun y4 =>
       optF (.done (none)) (pontageref7_right K ((x2.2.2.2.2.2.1.2.2.2.2.1, ((I.of .u64 25), ())), ())) fun y5 =>
       brn (@inB .i64 x2.1.1 64)
        (brn (@inB .i64 x2.1.1 64)
         (optF (.done (none)) (pontageref7_right K ((x2.2.2.2.2.2.1.1, ((I.of .u64 2), ())), ())) fun y6 =>
         optF (.done (none)) (pontageref7_right K ((x2.2.2.2.2.2.1.1, ((I.of .u64 13), ())), ())) fun y7 =>
         optF (.done (none)) (pontageref7_right K ((x2.2.2.2.2.2.1.1, ((I.of .u64 22), ())), ())) fun y8 =>
         .again (((@I.add .i64 x2.1.1 (I.of .i64 1)), ()), (x2.2.1, (x2.2.2.1, (x2.2.2.2.1, (x2.2.2.2.2.1, (((@I.add .u32 (@I.add .u32 (@I.add .u32 (@I.add .u32 (@I.add .u32 x2.2.2.2.2.2.1.2.2.2.2.2.2.2.1 (@I.xor .u32 (@I.xor .u32 y3.1.1 y4.1.1) y5.1.1)) (@I.xor .u32 (@I.and .u32 x2.2.2.2.2.2.1.2.2.2.2.1 x2.2.2.2.2.2.1.2.2.2.2.2.1) (@I.and .u32 (@I.com .u32 x2.2.2.2.2.2.1.2.2.2.2.1) x2.2.2.2.2.2.1.2.2.2.2.2.2.1))) (@Arr.sel (I .u32) (I.of .u32 0) 64 x2.2.2.2.1 (@I.nat .i64 x2.1.1))) (@Arr.sel (I .u32) (I.of .u32 0) 64 x2.2.2.2.2.1 (@I.nat .i64 x2.1.1))) (@I.add .u32 (@I.xor .u32 (@I.xor .u32 y6.1.1 y7.1.1) y8.1.1) (@I.xor .u32 (@I.xor .u32 (@I.and .u32 x2.2.2.2.2.2.1.1 x2.2.2.2.2.2.1.2.1) (@I.and .u32 x2.2.2.2.2.2.1.1 x2.2.2.2.2.2.1.2.2.1)) (@I.and .u32 x2.2.2.2.2.2.1.2.1 x2.2.2.2.2.2.1.2.2.1)))), (x2.2.2.2.2.2.1.1, (x2.2.2.2.2.2.1.2.1, (x2.2.2.2.2.2.1.2.2.1, ((@I.add .u32 x2.2.2.2.2.2.1.2.2.2.1 (@I.add .u32 (@I.add .u32 (@I.add .u32 (@I.add .u32 x2.2.2.2.2.2.1.2.2.2.2.2.2.2.1 (@I.xor .u32 (@I.xor .u32 y3.1.1 y4.1.1) y5.1.1)) (@I.xor .u32 (@I.and .u32 x2.2.2.2.2.2.1.2.2.2.2.1 x2.2.2.2.2.2.1.2.2.2.2.2.1) (@I.and .u32 (@I.com .u32 x2.2.2.2.2.2.1.2.2.2.2.1) x2.2.2.2.2.2.1.2.2.2.2.2.2.1))) (@Arr.sel (I .u32) (I.of .u32 0) 64 x2.2.2.2.1 (@I.nat .i64 x2.1.1))) (@Arr.sel (I .u32) (I.of .u32 0) 64 x2.2.2.2.2.1 (@I.nat .i64 x2.1.1)))), (x2.2.2.2.2.2.1.2.2.2.2.1, (x2.2.2.2.2.2.1.2.2.2.2.2.1, (x2.2.2.2.2.2.1.2.2.2.2.2.2.1, ())))))))), ())))))))
         (.done (none)))
        (.done (none)))
       (.done (iter (none) (fun x3 =>
         brn (@I.ltb .i64 x3.1.1 (I.of .i64 8))
          (brn (@inB .i64 x3.1.1 8)
           (brn (@inB .i64 x3.1.1 8)
            (brn (@inB .i64 x3.1.1 8)
             (.again (((@I.add .i64 x3.1.1 (I.of .i64 1)), ()), (x3.2.1, (x3.2.2.1, ((@Arr.upd (I .u32) 8 x3.2.2.2.1 (@I.nat .i64 x3.1.1) (@I.add .u32 (@Arr.sel (I .u32) (I.of .u32 0) 8 x3.2.2.2.1 (@I.nat .i64 x3.1.1)) (@Arr.sel (I .u32) (I.of .u32 0) 8 x3.2.1 (@I.nat .i64 x3.1.1)))), ())))))
             (.done (none)))
            (.done (none)))
           (.done (none)))
          (.done (some ((x3.2.2.2.1, ()), ()))))
       K (((I.of .i64 0), ()), (x2.2.1, (x2.2.2.1, (x2.2.2.2.2.2.1, ())))))))
    K (((I.of .i64 0), ()), (x1.2.1, (x1.2.2.1, (x1.2.2.2.1, (x1.2.2.2.2.1, (x1.2.1, ())))))))))
 K ((b, ((I.of .i64 0), ())), (a, (Z_S_A8_intu32, (y0.1.1, (Z_S_A64_intu32, ())))))
noncomputable def pontageref7_Sum (K : Nat) (x : (⟨[.pl (.sl (.int .u8))], []⟩ : Tm).D) : Option (⟨[.pl (.arr 32 (.int .u8))], []⟩ : Tm).D :=
 let a : (List (I .u8)) := x.1.1
 brn (fitsLen (@lenL (I .u8) (@appL (I .u8) [] a)))
  (brn (fitsLen (@lenL (I .u8) (@appL (I .u8) (@appL (I .u8) [] a) KS_80)))
   (iter (none) (fun (x0 : (((List (I .u8)) × Unit) × (S_A32_intu8 × ((List (I .u8)) × Unit)))) =>
     brn (@I.neb .i64 (@I.rem .i64 (I.ofNat .i64 (@lenL (I .u8) x0.2.2.1)) (I.of .i64 64)) (I.of .i64 56))
      (brn (fitsLen (@lenL (I .u8) (@appL (I .u8) x0.2.2.1 KS_00)))
       (.again ((x0.1.1, ()), (x0.2.1, ((@appL (I .u8) x0.2.2.1 KS_00), ()))))
       (.done (none)))
      (.done (iter (none) (fun x1 =>
        brn (@I.leb .i64 (I.of .i64 0) x1.1.2.1)
         (brn (@I.nn .u64 (I.conv (k := .i64) .u64 (@I.mul .i64 (I.of .i64 8) x1.1.2.1)))
          (brn (fitsLen (@lenL (I .u8) (@appL (I .u8) x1.2.2.1 ((I.conv (k := .u64) .u8 (@I.shr .u64 .u64 x1.1.1 (I.conv (k := .i64) .u64 (@I.mul .i64 (I.of .i64 8) x1.1.2.1)))) :: []))))
           (.again ((x1.1.1, ((@I.sub .i64 x1.1.2.1 (I.of .i64 1)), ())), (x1.2.1, ((@appL (I .u8) x1.2.2.1 ((I.conv (k := .u64) .u8 (@I.shr .u64 .u64 x1.1.1 (I.conv (k := .i64) .u64 (@I.mul .i64 (I.of .i64 8) x1.1.2.1)))) :: [])), ()))))
           (.done (none)))
          (.done (none)))
         (.done (iter (none) (fun x2 =>
           brn (@I.ltb .i64 x2.1.1 (I.ofNat .i64 (@lenL (I .u8) x2.2.2.1)))
            (brn (@inB' .i64 x2.1.1 (@I.nat .i64 (@I.add .i64 x2.1.1 (I.of .i64 64))))
             (brn (@inB' .i64 (@I.add .i64 x2.1.1 (I.of .i64 64)) (@lenL (I .u8) x2.2.2.1))
              (optF (.done (none)) (pontageref7_block K ((x2.2.2.2.1, ((@subL (I .u8) x2.2.2.1 (@I.nat .i64 x2.1.1) ((@I.nat .i64 (@I.add .i64 x2.1.1 (I.of .i64 64))) - (@I.nat .i64 x2.1.1))), ())), ())) fun y3 =>
              .again (((@I.add .i64 x2.1.1 (I.of .i64 64)), ()), (x2.2.1, (x2.2.2.1, (y3.1.1, ())))))
              (.done (none)))
             (.done (none)))
            (.done (iter (none) (fun x3 =>
              brn (@I.ltb .i64 x3.1.1 (I.of .i64 32))
               (brn (@inB .i64 (@I.quo .i64 x3.1.1 (I.of .i64 4)) 8)
                (brn (@I.nn .u64 (I.conv (k := .i64) .u64 (@I.sub .i64 (I.of .i64 24) (@I.mul .i64 (I.of .i64 8) (@I.rem .i64 x3.1.1 (I.of .i64 4))))))
                 (brn (@inB .i64 x3.1.1 32)
                  (.again (((@I.add .i64 x3.1.1 (I.of .i64 1)), ()), (x3.2.1, (x3.2.2.1, ((@Arr.upd (I .u8) 32 x3.2.2.2.1 (@I.nat .i64 x3.1.1) (I.conv (k := .u32) .u8 (@I.shr .u32 .u64 (@Arr.sel (I .u32) (I.of .u32 0) 8 x3.2.2.1 (@I.nat .i64 (@I.quo .i64 x3.1.1 (I.of .i64 4)))) (I.conv (k := .i64) .u64 (@I.sub .i64 (I.of .i64 24) (@I.mul .i64 (I.of .i64 8) (@I.rem .i64 x3.1.1 (I.of .i64 4)))))))), ())))))
                  (.done (none)))
                 (.done (none)))
                (.done (none)))
               (.done (some ((x3.2.2.2.1, ()), ()))))
            K (((I.of .i64 0), ()), (x2.2.1, (x2.2.2.2.1, (Z_S_A32_intu8, ())))))))
         K (((I.of .i64 0), ()), (x1.2.1, (x1.2.2.1, (((I.of .u32 1779033703), ((I.of .u32 3144134277), ((I.of .u32 1013904242), ((I.of .u32 2773480762), ((I.of .u32 1359893119), ((I.of .u32 2600822924), ((I.of .u32 528734635), ((I.of .u32 1541459225), ())))))))), ())))))))
      K (((@I.mul .u64 (I.conv (k := .i64) .u64 (I.ofNat .i64 (@lenL (I .u8) x0.1.1))) (I.of .u64 8)), ((I.of .i64 7), ())), (x0.2.1, (x0.2.2.1, ()))))))
   K ((a, ()), (Z_S_A32_intu8, ((@appL (I .u8) (@appL (I .u8) [] a) KS_80), ()))))
   (none))
  (none)
noncomputable def pontageref7_Leaf (K : Nat) (x : (⟨[.pl (.sl (.int .u8))], []⟩ : Tm).D) : Option (⟨[.pl (.arr 32 (.int .u8))], []⟩ : Tm).D :=
 let a : (List (I .u8)) := x.1.1
 brn (fitsLen (@lenL (I .u8) (@appL (I .u8) KS_00 a)))
  (optF (none) (pontageref7_Sum K (((@appL (I .u8) KS_00 a), ()), ())) fun y0 =>
  some ((y0.1.1, ()), ()))
  (none)
noncomputable def pontageref6_digits (K : Nat) (x : (⟨[.pl u256], []⟩ : Tm).D) : Option (⟨[.pl (.sl (.int .u8))], []⟩ : Tm).D :=
 let a : U := x.1.1
 iter (none) (fun (x0 : (((I .i64) × Unit) × (U × ((List (I .u8)) × Unit)))) =>
   brn (@I.leb .i64 (I.of .i64 0) x0.1.1)
    (brn (@inB .i64 (@I.quo .i64 x0.1.1 (I.of .i64 8)) 4)
     (brn (@I.nn .u64 (I.conv (k := .i64) .u64 (@I.mul .i64 (I.of .i64 8) (@I.rem .i64 x0.1.1 (I.of .i64 8)))))
      (brn (@I.ltb .i64 (I.of .i64 0) (I.ofNat .i64 (@lenL (I .u8) x0.2.2.1)))
       (brn (fitsLen (@lenL (I .u8) (@appL (I .u8) x0.2.2.1 ((I.conv (k := .u64) .u8 (@I.shr .u64 .u64 (@Arr.sel (I .u64) (I.of .u64 0) 4 x0.2.1 (@I.nat .i64 (@I.quo .i64 x0.1.1 (I.of .i64 8)))) (I.conv (k := .i64) .u64 (@I.mul .i64 (I.of .i64 8) (@I.rem .i64 x0.1.1 (I.of .i64 8)))))) :: []))))
        (.again (((@I.sub .i64 x0.1.1 (I.of .i64 1)), ()), (x0.2.1, ((@appL (I .u8) x0.2.2.1 ((I.conv (k := .u64) .u8 (@I.shr .u64 .u64 (@Arr.sel (I .u64) (I.of .u64 0) 4 x0.2.1 (@I.nat .i64 (@I.quo .i64 x0.1.1 (I.of .i64 8)))) (I.conv (k := .i64) .u64 (@I.mul .i64 (I.of .i64 8) (@I.rem .i64 x0.1.1 (I.of .i64 8)))))) :: [])), ()))))
        (.done (none)))
       (brn (@I.ltb .u8 (I.of .u8 0) (I.conv (k := .u64) .u8 (@I.shr .u64 .u64 (@Arr.sel (I .u64) (I.of .u64 0) 4 x0.2.1 (@I.nat .i64 (@I.quo .i64 x0.1.1 (I.of .i64 8)))) (I.conv (k := .i64) .u64 (@I.mul .i64 (I.of .i64 8) (@I.rem .i64 x0.1.1 (I.of .i64 8)))))))
        (brn (fitsLen (@lenL (I .u8) (@appL (I .u8) x0.2.2.1 ((I.conv (k := .u64) .u8 (@I.shr .u64 .u64 (@Arr.sel (I .u64) (I.of .u64 0) 4 x0.2.1 (@I.nat .i64 (@I.quo .i64 x0.1.1 (I.of .i64 8)))) (I.conv (k := .i64) .u64 (@I.mul .i64 (I.of .i64 8) (@I.rem .i64 x0.1.1 (I.of .i64 8)))))) :: []))))
         (.again (((@I.sub .i64 x0.1.1 (I.of .i64 1)), ()), (x0.2.1, ((@appL (I .u8) x0.2.2.1 ((I.conv (k := .u64) .u8 (@I.shr .u64 .u64 (@Arr.sel (I .u64) (I.of .u64 0) 4 x0.2.1 (@I.nat .i64 (@I.quo .i64 x0.1.1 (I.of .i64 8)))) (I.conv (k := .i64) .u64 (@I.mul .i64 (I.of .i64 8) (@I.rem .i64 x0.1.1 (I.of .i64 8)))))) :: [])), ()))))
         (.done (none)))
        (.again (((@I.sub .i64 x0.1.1 (I.of .i64 1)), ()), (x0.2.1, (x0.2.2.1, ()))))))
      (.done (none)))
     (.done (none)))
    (.done (some ((x0.2.2.1, ()), ()))))
 K (((I.of .i64 31), ()), (a, ([], ())))
noncomputable def pontageref6_AppendUint256 (K : Nat) (x : (⟨[.pl (.sl (.int .u8)), .pl u256], []⟩ : Tm).D) : Option (⟨[.pl (.sl (.int .u8))], []⟩ : Tm).D :=
 let a : (List (I .u8)) := x.1.1
 let b : U := x.1.2.1
 optF (none) (pontageref6_digits K ((b, ()), ())) fun y0 =>
 brn (fitsLen (@lenL (I .u8) (@appL (I .u8) [] a)))
  (brn (fitsLen (@lenL (I .u8) (@appL (I .u8) (@appL (I .u8) [] a) ((I.conv (k := .i64) .u8 (I.ofNat .i64 (@lenL (I .u8) y0.1.1))) :: []))))
   (brn (fitsLen (@lenL (I .u8) (@appL (I .u8) (@appL (I .u8) (@appL (I .u8) [] a) ((I.conv (k := .i64) .u8 (I.ofNat .i64 (@lenL (I .u8) y0.1.1))) :: [])) y0.1.1)))
    (some (((@appL (I .u8) (@appL (I .u8) (@appL (I .u8) [] a) ((I.conv (k := .i64) .u8 (I.ofNat .i64 (@lenL (I .u8) y0.1.1))) :: [])) y0.1.1), ()), ()))
    (none))
   (none))
  (none)
noncomputable def pontageref6_AppendUint64 (K : Nat) (x : (⟨[.pl (.sl (.int .u8)), .pl (.int .u64)], []⟩ : Tm).D) : Option (⟨[.pl (.sl (.int .u8))], []⟩ : Tm).D :=
 let a : (List (I .u8)) := x.1.1
 let b : (I .u64) := x.1.2.1
 optF (none) (pontageref6_AppendUint256 K ((a, ((b, ((I.of .u64 0), ((I.of .u64 0), ((I.of .u64 0), ())))), ())), ())) fun y0 =>
 some ((y0.1.1, ()), ())
noncomputable def pontageref24_Encode (K : Nat) (x : (⟨[.pl Y_api_Message], []⟩ : Tm).D) : Option (⟨[.pl (.sl (.int .u8))], []⟩ : Tm).D :=
 let a : S_api_Message := x.1.1
 optF (none) (pontageref6_AppendUint64 K (([], (a.1, ())), ())) fun y0 =>
 optF (none) (pontageref6_AppendUint64 K ((y0.1.1, (a.2.1, ())), ())) fun y1 =>
 optF (none) (pontageref6_AppendUint256 K ((y1.1.1, (a.2.2.1, ())), ())) fun y2 =>
 some ((y2.1.1, ()), ())
noncomputable def pontageref24_Leaf (K : Nat) (x : (⟨[.pl Y_api_Message], []⟩ : Tm).D) : Option (⟨[.pl (.arr 32 (.int .u8))], []⟩ : Tm).D :=
 let a : S_api_Message := x.1.1
 optF (none) (pontageref24_Encode K ((a, ()), ())) fun y0 =>
 optF (none) (pontageref7_Leaf K ((y0.1.1, ()), ())) fun y1 =>
 some ((y1.1.1, ()), ())
noncomputable def pontageref24_Leaves (K : Nat) (x : (⟨[.pl (.sl Y_api_Message), .pl (.int .i64)], []⟩ : Tm).D) : Option (⟨[.pl (.sl (.arr 32 (.int .u8)))], []⟩ : Tm).D :=
 let a : (List S_api_Message) := x.1.1
 let b : (I .i64) := x.1.2.1
 iter (none) (fun (x0 : (((List S_api_Message) × ((I .i64) × ((I .i64) × Unit))) × ((List S_A32_intu8) × Unit))) =>
   brn (@I.ltb .i64 x0.1.2.2.1 x0.1.2.1)
    (brn (@inB .i64 x0.1.2.2.1 (@lenL S_api_Message x0.1.1))
     (optF (.done (none)) (pontageref24_Leaf K (((@rdL S_api_Message Z_S_api_Message x0.1.1 (@I.nat .i64 x0.1.2.2.1)), ()), ())) fun y1 =>
     brn (fitsLen (@lenL S_A32_intu8 (@appL S_A32_intu8 x0.2.1 (y1.1.1 :: []))))
      (.again ((x0.1.1, (x0.1.2.1, ((@I.add .i64 x0.1.2.2.1 (I.of .i64 1)), ()))), ((@appL S_A32_intu8 x0.2.1 (y1.1.1 :: [])), ())))
      (.done (none)))
     (.done (none)))
    (.done (some ((x0.2.1, ()), ()))))
 K ((a, (b, ((I.of .i64 0), ()))), ([], ()))
noncomputable def pontageref8_SplitPoint (K : Nat) (x : (⟨[.pl (.int .i64)], []⟩ : Tm).D) : Option (⟨[.pl (.int .i64)], []⟩ : Tm).D :=
 let a : (I .i64) := x.1.1
 iter (none) (fun x0 =>
   brn (@I.ltb .i64 x0.1.2.1 (@I.sub .i64 x0.1.1 x0.1.2.1))
    (.again ((x0.1.1, ((@I.mul .i64 (I.of .i64 2) x0.1.2.1), ())), ()))
    (.done (some ((x0.1.2.1, ()), ()))))
 K ((a, ((I.of .i64 1), ())), ())
noncomputable def pontageref7_Node (K : Nat) (x : (⟨[.pl (.arr 32 (.int .u8)), .pl (.arr 32 (.int .u8))], []⟩ : Tm).D) : Option (⟨[.pl (.arr 32 (.int .u8))], []⟩ : Tm).D :=
 let a : S_A32_intu8 := x.1.1
 let b : S_A32_intu8 := x.1.2.1
 brn (fitsLen (@lenL (I .u8) (@appL (I .u8) KS_01 (@subL (I .u8) (@Arr.list (I .u8) 32 a) 0 32))))
  (brn (fitsLen (@lenL (I .u8) (@appL (I .u8) (@appL (I .u8) KS_01 (@subL (I .u8) (@Arr.list (I .u8) 32 a) 0 32)) (@subL (I .u8) (@Arr.list (I .u8) 32 b) 0 32))))
   (optF (none) (pontageref7_Sum K (((@appL (I .u8) (@appL (I .u8) KS_01 (@subL (I .u8) (@Arr.list (I .u8) 32 a) 0 32)) (@subL (I .u8) (@Arr.list (I .u8) 32 b) 0 32)), ()), ())) fun y0 =>
   some ((y0.1.1, ()), ()))
   (none))
  (none)
noncomputable def pontageref8_RootOf_rec (K : Nat) : Nat → (⟨[.pl (.sl (.arr 32 (.int .u8)))], []⟩ : Tm).D → Option (⟨[.pl (.arr 32 (.int .u8))], []⟩ : Tm).D
 | 0, _ => none
 | k0 + 1, x =>
 let a : (List S_A32_intu8) := x.1.1
 brn (@I.eqb .i64 (I.ofNat .i64 (@lenL S_A32_intu8 a)) (I.of .i64 0))
  (optF (none) (pontageref7_Sum K (([], ()), ())) fun y0 =>
  some ((y0.1.1, ()), ()))
  (brn (@I.eqb .i64 (I.ofNat .i64 (@lenL S_A32_intu8 a)) (I.of .i64 1))
   (brn (@inB .i64 (I.of .i64 0) (@lenL S_A32_intu8 a))
    (some (((@rdL S_A32_intu8 Z_S_A32_intu8 a 0), ()), ()))
    (none))
   (optF (none) (pontageref8_SplitPoint K (((I.ofNat .i64 (@lenL S_A32_intu8 a)), ()), ())) fun y0 =>
   brn (@inB' .i64 y0.1.1 (@lenL S_A32_intu8 a))
    (optF (none) (pontageref8_RootOf_rec K k0 (((@subL S_A32_intu8 a 0 (@I.nat .i64 y0.1.1)), ()), ())) fun y1 =>
    brn (@inB' .i64 y0.1.1 (@lenL S_A32_intu8 a))
     (optF (none) (pontageref8_RootOf_rec K k0 (((@subL S_A32_intu8 a (@I.nat .i64 y0.1.1) ((@lenL S_A32_intu8 a) - (@I.nat .i64 y0.1.1))), ()), ())) fun y2 =>
     optF (none) (pontageref7_Node K ((y1.1.1, (y2.1.1, ())), ())) fun y3 =>
     some ((y3.1.1, ()), ()))
     (none))
    (none)))
noncomputable def pontageref8_RootOf (K : Nat) (x : (⟨[.pl (.sl (.arr 32 (.int .u8)))], []⟩ : Tm).D) : Option (⟨[.pl (.arr 32 (.int .u8))], []⟩ : Tm).D := pontageref8_RootOf_rec K K x
noncomputable def pontageref24_Root (K : Nat) (x : (⟨[.pl (.sl Y_api_Message), .pl (.int .i64)], []⟩ : Tm).D) : Option (⟨[.pl (.arr 32 (.int .u8)), .pl .bool], []⟩ : Tm).D :=
 let a : (List S_api_Message) := x.1.1
 let b : (I .i64) := x.1.2.1
 jn (fun (x0 : (((List S_api_Message) × ((I .i64) × Unit)) × (S_A32_intu8 × Unit))) =>
   optF (none) (pontageref24_Leaves K ((x0.1.1, (x0.1.2.1, ())), ())) fun y1 =>
   optF (none) (pontageref8_RootOf K ((y1.1.1, ()), ())) fun y2 =>
   some ((y2.1.1, (true, ())), ())) fun j0 =>
 brn (@I.ltb .i64 b (I.of .i64 0))
  (some ((Z_S_A32_intu8, (false, ())), ()))
  (brn (@I.ltb .i64 (I.ofNat .i64 (@lenL S_api_Message a)) b)
   (some ((Z_S_A32_intu8, (false, ())), ()))
   (j0 ((a, (b, ())), (Z_S_A32_intu8, ()))))
noncomputable def pontageref28_Machine_send (K : Nat) (x : (⟨[.ptr 0 [], .pl (.int .u64), .pl u256], H_pontageref28_Machine⟩ : Tm).D) : Option (⟨[.pl Y_api_Message], H_pontageref28_Machine⟩ : Tm).D :=
 let a : (I .u64) := x.1.1
 let b : U := x.1.2.1
 let h0 : O_pontageref28_Machine := x.2.1
 let h1 : O_pontageref11_Ledger := x.2.2.1
 let h2 : O_pontageref25_Escrow := x.2.2.2.1
 let h3 : (List S_api_Message) := x.2.2.2.2.1
 let h4 : (List S_api_Account) := x.2.2.2.2.2.1
 let h5 : (List S_A32_intu8) := x.2.2.2.2.2.2.1
 let h6 : (List (I .u64)) := x.2.2.2.2.2.2.2.1
 let h7 : (List S_api_Payment) := x.2.2.2.2.2.2.2.2.1
 brn (fitsLen (@lenL S_api_Message (@appL S_api_Message h3 (((I.conv (k := .i64) .u64 (I.ofNat .i64 (@lenL S_api_Message h3))), (a, (b, ()))) :: []))))
  (optF (none) (pontageref24_Root K (((@appL S_api_Message h3 (((I.conv (k := .i64) .u64 (I.ofNat .i64 (@lenL S_api_Message h3))), (a, (b, ()))) :: [])), ((I.ofNat .i64 (@lenL S_api_Message (@appL S_api_Message h3 (((I.conv (k := .i64) .u64 (I.ofNat .i64 (@lenL S_api_Message h3))), (a, (b, ()))) :: [])))), ())), ())) fun y0 =>
  brn (fitsLen (@lenL S_A32_intu8 (@appL S_A32_intu8 h5 (y0.1.1 :: []))))
   (some ((((I.conv (k := .i64) .u64 (I.ofNat .i64 (@lenL S_api_Message h3))), (a, (b, ()))), ()), (h0, (h1, (h2, ((@appL S_api_Message h3 (((I.conv (k := .i64) .u64 (I.ofNat .i64 (@lenL S_api_Message h3))), (a, (b, ()))) :: [])), (h4, ((@appL S_A32_intu8 h5 (y0.1.1 :: [])), (h6, (h7, ()))))))))))
   (none))
  (none)
noncomputable def pontageref28_Machine_tx (K : Nat) (x : (⟨[.ptr 0 [], .pl Y_api_Transaction], H_pontageref28_Machine⟩ : Tm).D) : Option (⟨[.pl Y_api_Receipt], H_pontageref28_Machine⟩ : Tm).D :=
 let a : S_api_Transaction := x.1.1
 let h0 : O_pontageref28_Machine := x.2.1
 let h1 : O_pontageref11_Ledger := x.2.2.1
 let h2 : O_pontageref25_Escrow := x.2.2.2.1
 let h3 : (List S_api_Message) := x.2.2.2.2.1
 let h4 : (List S_api_Account) := x.2.2.2.2.2.1
 let h5 : (List S_A32_intu8) := x.2.2.2.2.2.2.1
 let h6 : (List (I .u64)) := x.2.2.2.2.2.2.2.1
 let h7 : (List S_api_Payment) := x.2.2.2.2.2.2.2.2.1
 optF (none) (pontageref28_Machine_check K ((a, ()), (h0, (h1, (h2, (h3, (h4, (h5, (h6, (h7, ())))))))))) fun y0 =>
 brn (@I.neb .i64 y0.1.2.1 (I.of .i64 0))
  (some ((((I.of .i64 0), (y0.1.2.1, (Z_S_api_Charge, (Z_U, (Z_U, ((I.of .u64 0), (Z_U, (Z_U, ([], ()))))))))), ()), y0.2))
  (optF (none) (pontageref23_Compute K ((a, (y0.2.1.2.2.1.2.2.2.1, (y0.2.1.2.2.2.2.1.1, (y0.2.1.2.1, ())))), ())) fun y1 =>
  brn (@I.neb .i64 y1.1.2.1 (I.of .i64 0))
   (some ((((I.of .i64 0), (y1.1.2.1, (Z_S_api_Charge, (Z_U, (Z_U, ((I.of .u64 0), (Z_U, (Z_U, ([], ()))))))))), ()), y0.2))
   (optF (none) (pontageref21_AddUnits K ((y0.2.1.2.2.2.2.1, (y1.1.1.1, ())), ())) fun y2 =>
   brn (@I.neb .i64 y2.1.2.1 (I.of .i64 0))
    (some ((((I.of .i64 0), ((I.of .i64 4), (Z_S_api_Charge, (Z_U, (Z_U, ((I.of .u64 0), (Z_U, (Z_U, ([], ()))))))))), ()), y0.2))
    (optF (none) (pontageref11_Ledger_PayVault K ((a.1, ((I.of .i64 3), (y1.1.1.2.2.2.2.2.2.1, ()))), (y0.2.2.1, (y0.2.2.2.2.2.1, ())))) fun y3 =>
    optF (none) (pontageref11_Ledger_PayVault K ((a.1, ((I.of .i64 2), (y1.1.1.2.2.2.2.2.2.2.1, ()))), (y3.2.1, (y3.2.2.1, ())))) fun y4 =>
    optF (none) (pontageref11_Ledger_PayVault K ((a.1, ((I.of .i64 1), (y1.1.1.2.2.2.2.2.2.2.2.1, ()))), (y4.2.1, (y4.2.2.1, ())))) fun y5 =>
    optF (none) (pontageref11_Ledger_PayVault K ((a.1, ((I.of .i64 4), (y1.1.1.2.2.2.2.2.2.2.2.2.1, ()))), (y5.2.1, (y5.2.2.1, ())))) fun y6 =>
    optF (none) (pontageref11_Ledger_IncrementNonce K ((a.1, ()), (y6.2.1, (y6.2.2.1, ())))) fun y7 =>
    optF (none) (pontageref13_Add K ((y0.2.1.2.2.2.1, (y1.1.1.2.2.1, ())), ())) fun y8 =>
    jn (fun (x9 : (Unit × (O_pontageref28_Machine × (O_pontageref11_Ledger × ((List S_api_Account) × ((List S_api_Message) × (O_pontageref25_Escrow × ((List S_A32_intu8) × ((List (I .u64)) × ((List S_api_Payment) × (S_api_Transaction × (((I .i64) × ((I .i64) × (S_api_Charge × (U × (U × ((I .u64) × (U × (U × (Unit × Unit))))))))) × ((List S_api_Message) × (((I .i64) × ((I .i64) × (S_api_Charge × (U × (U × ((I .u64) × (U × (U × (Unit × Unit))))))))) × ((List S_api_Message) × Unit))))))))))))))) =>
      brn (@I.neb .u64 x9.2.2.2.2.2.2.2.2.2.1.2.2.1 (I.of .u64 18446744073709551615))
       (optF (none) (pontageref11_Ledger_Transfer K ((x9.2.2.2.2.2.2.2.2.2.1.1, (x9.2.2.2.2.2.2.2.2.2.1.2.2.1, (x9.2.2.2.2.2.2.2.2.2.1.2.2.2.1, ()))), (x9.2.2.1, (x9.2.2.2.1, ())))) fun y10 =>
       some (((x9.2.2.2.2.2.2.2.2.2.2.2.2.1.1, (x9.2.2.2.2.2.2.2.2.2.2.2.2.1.2.1, (x9.2.2.2.2.2.2.2.2.2.2.2.2.1.2.2.1, (x9.2.2.2.2.2.2.2.2.2.2.2.2.1.2.2.2.1, (x9.2.2.2.2.2.2.2.2.2.1.2.2.2.1, (x9.2.2.2.2.2.2.2.2.2.2.2.2.1.2.2.2.2.2.1, (x9.2.2.2.2.2.2.2.2.2.2.2.2.1.2.2.2.2.2.2.1, (x9.2.2.2.2.2.2.2.2.2.2.2.2.1.2.2.2.2.2.2.2.1, (x9.2.2.2.2.2.2.2.2.2.2.2.2.2.1, x9.2.2.2.2.2.2.2.2.2.2.2.2.1.2.2.2.2.2.2.2.2.2))))))))), ()), (x9.2.1, (y10.2.1, (x9.2.2.2.2.2.1, (x9.2.2.2.2.1, (y10.2.2.1, (x9.2.2.2.2.2.2.1, (x9.2.2.2.2.2.2.2.1, (x9.2.2.2.2.2.2.2.2.1, ()))))))))))
       (optF (none) (pontageref1_IsZero K ((x9.2.2.2.2.2.2.2.2.2.1.2.2.2.1, ()), ())) fun y10 =>
       brn (bnot y10.1.1)
        (optF (none) (pontageref11_Ledger_Withdraw K ((x9.2.2.2.2.2.2.2.2.2.1.1, (x9.2.2.2.2.2.2.2.2.2.1.2.2.2.1, ())), (x9.2.2.1, (x9.2.2.2.1, ())))) fun y11 =>
        optF (none) (pontageref28_Machine_send K ((x9.2.2.2.2.2.2.2.2.2.1.1, (x9.2.2.2.2.2.2.2.2.2.1.2.2.2.1, ())), (x9.2.1, (y11.2.1, (x9.2.2.2.2.2.1, (x9.2.2.2.2.1, (y11.2.2.1, (x9.2.2.2.2.2.2.1, (x9.2.2.2.2.2.2.2.1, (x9.2.2.2.2.2.2.2.2.1, ())))))))))) fun y12 =>
        brn (fitsLen (@lenL S_api_Message (@appL S_api_Message x9.2.2.2.2.2.2.2.2.2.2.2.2.2.1 (y12.1.1 :: []))))
         (some (((x9.2.2.2.2.2.2.2.2.2.2.2.2.1.1, (x9.2.2.2.2.2.2.2.2.2.2.2.2.1.2.1, (x9.2.2.2.2.2.2.2.2.2.2.2.2.1.2.2.1, (x9.2.2.2.2.2.2.2.2.2.2.2.2.1.2.2.2.1, (x9.2.2.2.2.2.2.2.2.2.1.2.2.2.1, (x9.2.2.2.2.2.2.2.2.2.2.2.2.1.2.2.2.2.2.1, (x9.2.2.2.2.2.2.2.2.2.2.2.2.1.2.2.2.2.2.2.1, (x9.2.2.2.2.2.2.2.2.2.2.2.2.1.2.2.2.2.2.2.2.1, ((@appL S_api_Message x9.2.2.2.2.2.2.2.2.2.2.2.2.2.1 (y12.1.1 :: [])), x9.2.2.2.2.2.2.2.2.2.2.2.2.1.2.2.2.2.2.2.2.2.2))))))))), ()), y12.2))
         (none))
        (some (((x9.2.2.2.2.2.2.2.2.2.2.2.2.1.1, (x9.2.2.2.2.2.2.2.2.2.2.2.2.1.2.1, (x9.2.2.2.2.2.2.2.2.2.2.2.2.1.2.2.1, (x9.2.2.2.2.2.2.2.2.2.2.2.2.1.2.2.2.1, (x9.2.2.2.2.2.2.2.2.2.1.2.2.2.1, (x9.2.2.2.2.2.2.2.2.2.2.2.2.1.2.2.2.2.2.1, (x9.2.2.2.2.2.2.2.2.2.2.2.2.1.2.2.2.2.2.2.1, (x9.2.2.2.2.2.2.2.2.2.2.2.2.1.2.2.2.2.2.2.2.1, (x9.2.2.2.2.2.2.2.2.2.2.2.2.2.1, x9.2.2.2.2.2.2.2.2.2.2.2.2.1.2.2.2.2.2.2.2.2.2))))))))), ()), (x9.2.1, (x9.2.2.1, (x9.2.2.2.2.2.1, (x9.2.2.2.2.1, (x9.2.2.2.1, (x9.2.2.2.2.2.2.1, (x9.2.2.2.2.2.2.2.1, (x9.2.2.2.2.2.2.2.2.1, ())))))))))))) fun j9 =>
    brn y1.1.1.2.2.2.2.1
     (some ((((I.of .i64 0), ((I.of .i64 0), (y1.1.1, (y0.1.1, (Z_U, ((I.of .u64 0), (Z_U, (Z_U, ([], ()))))))))), ()), ((y0.2.1.1, (y0.2.1.2.1, ((y0.2.1.2.2.1.1, (y0.2.1.2.2.1.2.1, ((@I.add .u64 y0.2.1.2.2.1.2.2.1 y1.1.1.2.2.2.1), y0.2.1.2.2.1.2.2.2))), (y8.1.1, (y2.1.1, y0.2.1.2.2.2.2.2))))), (y7.2.1, (y0.2.2.2.1, (y0.2.2.2.2.1, (y7.2.2.1, (y0.2.2.2.2.2.2.1, (y0.2.2.2.2.2.2.2.1, (y0.2.2.2.2.2.2.2.2.1, ()))))))))))
     (brn (@I.eqb .u64 a.2.2.1 a.1)
      (some ((((I.of .i64 0), ((I.of .i64 0), (y1.1.1, (y0.1.1, (Z_U, ((I.of .u64 0), (Z_U, (Z_U, ([], ()))))))))), ()), ((y0.2.1.1, (y0.2.1.2.1, ((y0.2.1.2.2.1.1, (y0.2.1.2.2.1.2.1, ((@I.add .u64 y0.2.1.2.2.1.2.2.1 y1.1.1.2.2.2.1), y0.2.1.2.2.1.2.2.2))), (y8.1.1, (y2.1.1, y0.2.1.2.2.2.2.2))))), (y7.2.1, (y0.2.2.2.1, (y0.2.2.2.2.1, (y7.2.2.1, (y0.2.2.2.2.2.2.1, (y0.2.2.2.2.2.2.2.1, (y0.2.2.2.2.2.2.2.2.1, ()))))))))))
      (j9 ((), ((y0.2.1.1, (y0.2.1.2.1, ((y0.2.1.2.2.1.1, (y0.2.1.2.2.1.2.1, ((@I.add .u64 y0.2.1.2.2.1.2.2.1 y1.1.1.2.2.2.1), y0.2.1.2.2.1.2.2.2))), (y8.1.1, (y2.1.1, y0.2.1.2.2.2.2.2))))), (y7.2.1, (y7.2.2.1, (y0.2.2.2.2.1, (y0.2.2.2.1, (y0.2.2.2.2.2.2.1, (y0.2.2.2.2.2.2.2.1, (y0.2.2.2.2.2.2.2.2.1, (a, (((I.of .i64 0), ((I.of .i64 0), (Z_S_api_Charge, (Z_U, (Z_U, ((I.of .u64 0), (Z_U, (Z_U, ((), ()))))))))), ([], (((I.of .i64 0), ((I.of .i64 0), (y1.1.1, (y0.1.1, (Z_U, ((I.of .u64 0), (Z_U, (Z_U, ((), ()))))))))), ([], ())))))))))))))))))))
noncomputable def pontageref11_Ledger_Vault (K : Nat) (x : (⟨[.bp Y_pontageref11_Ledger, .pl (.int .i64)], []⟩ : Tm).D) : Option (⟨[.pl u256], []⟩ : Tm).D :=
 let a : S_pontageref11_Ledger := x.1.1
 let b : (I .i64) := x.1.2.1
 brn (@I.ltb .i64 b (I.of .i64 1))
  (some ((Z_U, ()), ()))
  (brn (@I.ltb .i64 (I.of .i64 4) b)
   (some ((Z_U, ()), ()))
   (brn (@inB .i64 (@I.sub .i64 b (I.of .i64 1)) 4)
    (some (((@Arr.sel U Z_U 4 a.2.1 (@I.nat .i64 (@I.sub .i64 b (I.of .i64 1)))), ()), ()))
    (none)))
noncomputable def pontageref11_Ledger_WithdrawVault (K : Nat) (x : (⟨[.ptr 0 [], .pl (.int .i64), .pl u256], H_pontageref11_Ledger⟩ : Tm).D) : Option (⟨[.pl (.int .i64)], H_pontageref11_Ledger⟩ : Tm).D :=
 let a : (I .i64) := x.1.1
 let b : U := x.1.2.1
 let h0 : O_pontageref11_Ledger := x.2.1
 let h1 : (List S_api_Account) := x.2.2.1
 jn (fun (x0 : (((I .i64) × Unit) × (O_pontageref11_Ledger × ((List S_api_Account) × (U × Unit))))) =>
   brn (@inB .i64 (@I.sub .i64 x0.1.1 (I.of .i64 1)) 4)
    (optF (none) (pontageref1_Sub256 K (((@Arr.sel U Z_U 4 x0.2.1.2.1 (@I.nat .i64 (@I.sub .i64 x0.1.1 (I.of .i64 1)))), (x0.2.2.2.1, ())), ())) fun y1 =>
    brn (@I.neb .i64 y1.1.2.1 (I.of .i64 0))
     (some (((I.of .i64 10), ()), (x0.2.1, (x0.2.2.1, ()))))
     (brn (@inB .i64 (@I.sub .i64 x0.1.1 (I.of .i64 1)) 4)
      (some (((I.of .i64 0), ()), (((), ((@Arr.upd U 4 x0.2.1.2.1 (@I.nat .i64 (@I.sub .i64 x0.1.1 (I.of .i64 1))) y1.1.1), x0.2.1.2.2)), (x0.2.2.1, ()))))
      (none)))
    (none)) fun j0 =>
 brn (@I.ltb .i64 a (I.of .i64 1))
  (some (((I.of .i64 2), ()), (h0, (h1, ()))))
  (brn (@I.ltb .i64 (I.of .i64 4) a)
   (some (((I.of .i64 2), ()), (h0, (h1, ()))))
   (j0 ((a, ()), (h0, (h1, (b, ()))))))
noncomputable def pontageref28_Machine_report (K : Nat) (x : (⟨[.ptr 0 [], .pl Y_api_Message], H_pontageref28_Machine⟩ : Tm).D) : Option (⟨[.pl Y_api_Receipt], H_pontageref28_Machine⟩ : Tm).D :=
 let a : S_api_Message := x.1.1
 let h0 : O_pontageref28_Machine := x.2.1
 let h1 : O_pontageref11_Ledger := x.2.2.1
 let h2 : O_pontageref25_Escrow := x.2.2.2.1
 let h3 : (List S_api_Message) := x.2.2.2.2.1
 let h4 : (List S_api_Account) := x.2.2.2.2.2.1
 let h5 : (List S_A32_intu8) := x.2.2.2.2.2.2.1
 let h6 : (List (I .u64)) := x.2.2.2.2.2.2.2.1
 let h7 : (List S_api_Payment) := x.2.2.2.2.2.2.2.2.1
 optF (none) (pontageref11_Ledger_Vault K (((h4, h1.2), ((I.of .i64 3), ())), ())) fun y0 =>
 optF (none) (pontageref21_Report K ((h0.2.2.2.2.1, (h0.2.1, (y0.1.1, (a, (h0.2.2.1.2.1, ()))))), ())) fun y1 =>
 brn (@I.neb .i64 y1.1.2.2.1 (I.of .i64 0))
  (some ((((I.of .i64 0), (y1.1.2.2.1, (Z_S_api_Charge, (Z_U, (Z_U, ((I.of .u64 0), (Z_U, (Z_U, ([], ()))))))))), ()), (h0, (h1, (h2, (h3, (h4, (h5, (h6, (h7, ()))))))))))
  (optF (none) (pontageref20_Sum K ((y1.1.2.1.2.2.1, ()), ())) fun y2 =>
  iter (none) (fun (x3 : (((I .i64) × Unit) × (O_pontageref28_Machine × (O_pontageref11_Ledger × ((List S_api_Account) × ((List S_api_Message) × (O_pontageref25_Escrow × ((List S_A32_intu8) × ((List (I .u64)) × ((List S_api_Payment) × (((I .i64) × ((I .i64) × (S_api_Charge × (U × (U × ((I .u64) × (U × (U × (Unit × Unit))))))))) × ((List S_api_Message) × (S_pontageref21_Outcome × (((I .i64) × ((I .i64) × (S_api_Charge × (U × (U × ((I .u64) × (U × (U × (Unit × Unit))))))))) × ((List S_api_Message) × Unit))))))))))))))) =>
    brn (@I.ltb .i64 x3.1.1 (I.ofNat .i64 (@lenL S_api_Payment x3.2.2.2.2.2.2.2.2.2.2.2.1.2.2.1)))
     (brn (@inB .i64 x3.1.1 (@lenL S_api_Payment x3.2.2.2.2.2.2.2.2.2.2.2.1.2.2.1))
      (optF (.done (none)) (pontageref11_Ledger_WithdrawVault K (((I.of .i64 3), ((@rdL S_api_Payment Z_S_api_Payment x3.2.2.2.2.2.2.2.2.2.2.2.1.2.2.1 (@I.nat .i64 x3.1.1)).2.1, ())), (x3.2.2.1, (x3.2.2.2.1, ())))) fun y4 =>
      brn (@inB .i64 x3.1.1 (@lenL S_api_Payment x3.2.2.2.2.2.2.2.2.2.2.2.1.2.2.1))
       (brn (@inB .i64 x3.1.1 (@lenL S_api_Payment x3.2.2.2.2.2.2.2.2.2.2.2.1.2.2.1))
        (optF (.done (none)) (pontageref28_Machine_send K (((@rdL S_api_Payment Z_S_api_Payment x3.2.2.2.2.2.2.2.2.2.2.2.1.2.2.1 (@I.nat .i64 x3.1.1)).1, ((@rdL S_api_Payment Z_S_api_Payment x3.2.2.2.2.2.2.2.2.2.2.2.1.2.2.1 (@I.nat .i64 x3.1.1)).2.1, ())), (x3.2.1, (y4.2.1, (x3.2.2.2.2.2.1, (x3.2.2.2.2.1, (y4.2.2.1, (x3.2.2.2.2.2.2.1, (x3.2.2.2.2.2.2.2.1, (x3.2.2.2.2.2.2.2.2.1, ())))))))))) fun y5 =>
        brn (fitsLen (@lenL S_api_Message (@appL S_api_Message x3.2.2.2.2.2.2.2.2.2.2.2.2.2.1 (y5.1.1 :: []))))
         (.again (((@I.add .i64 x3.1.1 (I.of .i64 1)), ()), (y5.2.1, (y5.2.2.1, (y5.2.2.2.2.2.1, (y5.2.2.2.2.1, (y5.2.2.2.1, (y5.2.2.2.2.2.2.1, (y5.2.2.2.2.2.2.2.1, (y5.2.2.2.2.2.2.2.2.1, (x3.2.2.2.2.2.2.2.2.2.1, (x3.2.2.2.2.2.2.2.2.2.2.1, (x3.2.2.2.2.2.2.2.2.2.2.2.1, (x3.2.2.2.2.2.2.2.2.2.2.2.2.1, ((@appL S_api_Message x3.2.2.2.2.2.2.2.2.2.2.2.2.2.1 (y5.1.1 :: [])), ())))))))))))))))
         (.done (none)))
        (.done (none)))
       (.done (none)))
      (.done (none)))
     (.done (some (((x3.2.2.2.2.2.2.2.2.2.2.2.2.1.1, (x3.2.2.2.2.2.2.2.2.2.2.2.2.1.2.1, (x3.2.2.2.2.2.2.2.2.2.2.2.2.1.2.2.1, (x3.2.2.2.2.2.2.2.2.2.2.2.2.1.2.2.2.1, (x3.2.2.2.2.2.2.2.2.2.2.2.2.1.2.2.2.2.1, (x3.2.2.2.2.2.2.2.2.2.2.2.2.1.2.2.2.2.2.1, (x3.2.2.2.2.2.2.2.2.2.2.2.2.1.2.2.2.2.2.2.1, (x3.2.2.2.2.2.2.2.2.2.2.2.2.1.2.2.2.2.2.2.2.1, (x3.2.2.2.2.2.2.2.2.2.2.2.2.2.1, x3.2.2.2.2.2.2.2.2.2.2.2.2.1.2.2.2.2.2.2.2.2.2))))))))), ()), (x3.2.1, (x3.2.2.1, (x3.2.2.2.2.2.1, (x3.2.2.2.2.1, (x3.2.2.2.1, (x3.2.2.2.2.2.2.1, (x3.2.2.2.2.2.2.2.1, (x3.2.2.2.2.2.2.2.2.1, ()))))))))))))
  K (((I.of .i64 0), ()), ((h0.1, (h0.2.1, (h0.2.2.1, (h0.2.2.2.1, (y1.1.1, h0.2.2.2.2.2))))), (h1, (h4, (h3, (h2, (h5, (h6, (h7, (((I.of .i64 0), ((I.of .i64 0), (Z_S_api_Charge, (Z_U, (Z_U, ((I.of .u64 0), (Z_U, (Z_U, ((), ()))))))))), ([], (y1.1.2.1, (((I.of .i64 0), ((I.of .i64 0), (Z_S_api_Charge, (Z_U, (Z_U, (y1.1.2.1.1, (y1.1.2.1.2.1, (y2.1.1, ((), ()))))))))), ([], ())))))))))))))))
noncomputable def pontageref13_Drain (K : Nat) (x : (⟨[.pl (.int .u64), .pl (.int .u64), .pl (.int .u64)], []⟩ : Tm).D) : Option (⟨[.pl (.int .u64)], []⟩ : Tm).D :=
 let a : (I .u64) := x.1.1
 let b : (I .u64) := x.1.2.1
 let c : (I .u64) := x.1.2.2.1
 optF (none) (pontageref13_rest K ((a, (b, (c, ()))), ())) fun y0 =>
 some ((y0.1.1, ()), ())
noncomputable def pontageref15_Next (K : Nat) (x : (⟨[.pl Y_api_Block, .pl (.int .u64), .pl (.int .u64), .pl Y_api_Params], []⟩ : Tm).D) : Option (⟨[.pl Y_api_Block, .pl (.int .i64)], []⟩ : Tm).D :=
 let a : S_api_Block := x.1.1
 let b : (I .u64) := x.1.2.1
 let c : (I .u64) := x.1.2.2.1
 let d : S_api_Params := x.1.2.2.2.1
 jn (fun (x0 : (((I .u64) × ((I .u64) × Unit)) × (S_api_Block × (S_api_Params × (S_api_Block × Unit))))) =>
   optF (none) (pontageref14_Fee K ((x0.1.2.1, (x0.2.2.1, ())), ())) fun y1 =>
   brn (@I.neb .i64 y1.1.2.1 (I.of .i64 0))
    (some ((Z_S_api_Block, (y1.1.2.1, ())), ()))
    (brn (@I.eqb .u64 (@I.add .u64 x0.2.1.1 (I.of .u64 1)) (I.of .u64 0))
     (some ((Z_S_api_Block, ((I.of .i64 4), ())), ()))
     (brn (@I.ltb .u64 (@I.add .u64 x0.2.1.2.1 x0.1.1) x0.2.1.2.1)
      (some ((Z_S_api_Block, ((I.of .i64 4), ())), ()))
      (some ((((@I.add .u64 x0.2.1.1 (I.of .u64 1)), ((@I.add .u64 x0.2.1.2.1 x0.1.1), ((I.of .u64 0), (y1.1.1, ())))), ((I.of .i64 0), ())), ()))))) fun j0 =>
 brn (@I.ltb .u64 b (I.of .u64 1))
  (some ((Z_S_api_Block, ((I.of .i64 2), ())), ()))
  (brn (@I.ltb .u64 (I.of .u64 1048576) b)
   (some ((Z_S_api_Block, ((I.of .i64 2), ())), ()))
   (j0 ((b, (c, ())), (a, (d, (Z_S_api_Block, ()))))))
noncomputable def pontageref12_all (K : Nat) (x : (⟨[.pl Y_api_Params], []⟩ : Tm).D) : Option (⟨[.pl (.arr 12 u256)], []⟩ : Tm).D :=
 let a : S_api_Params := x.1.1
 some ((((a.1, ((I.of .u64 0), ((I.of .u64 0), ((I.of .u64 0), ())))), ((a.2.1, ((I.of .u64 0), ((I.of .u64 0), ((I.of .u64 0), ())))), ((a.2.2.1, ((I.of .u64 0), ((I.of .u64 0), ((I.of .u64 0), ())))), (a.2.2.2.1, ((a.2.2.2.2.1, ((I.of .u64 0), ((I.of .u64 0), ((I.of .u64 0), ())))), (a.2.2.2.2.2.1, ((a.2.2.2.2.2.2.1, ((I.of .u64 0), ((I.of .u64 0), ((I.of .u64 0), ())))), (a.2.2.2.2.2.2.2.1, ((a.2.2.2.2.2.2.2.2.1, ((I.of .u64 0), ((I.of .u64 0), ((I.of .u64 0), ())))), ((a.2.2.2.2.2.2.2.2.2.1, ((I.of .u64 0), ((I.of .u64 0), ((I.of .u64 0), ())))), ((a.2.2.2.2.2.2.2.2.2.2.1, ((I.of .u64 0), ((I.of .u64 0), ((I.of .u64 0), ())))), ((a.2.2.2.2.2.2.2.2.2.2.2.1, ((I.of .u64 0), ((I.of .u64 0), ((I.of .u64 0), ())))), ())))))))))))), ()), ())
noncomputable def pontageref12_Set (K : Nat) (x : (⟨[.pl Y_api_Params, .pl (.int .i64), .pl u256], []⟩ : Tm).D) : Option (⟨[.pl Y_api_Params, .pl (.int .i64)], []⟩ : Tm).D :=
 let a : S_api_Params := x.1.1
 let b : (I .i64) := x.1.2.1
 let c : U := x.1.2.2.1
 jn (fun (x0 : (((I .i64) × Unit) × (S_api_Params × (U × (S_api_Params × Unit))))) =>
   optF (none) (pontageref12_Valid K ((x0.2.1, ()), ())) fun y1 =>
   brn (bnot y1.1.1)
    (some ((Z_S_api_Params, ((I.of .i64 15), ())), ()))
    (optF (none) (pontageref12_all K ((x0.2.1, ()), ())) fun y2 =>
    brn (@inB .i64 (@I.sub .i64 x0.1.1 (I.of .i64 1)) 12)
     (iter (none) (fun x3 =>
       brn (@I.ltb .i64 x3.1.1 (I.of .i64 12))
        (brn (@inB .i64 x3.1.1 12)
         (optF (.done (none)) (pontageref1_Uint64 K (((@Arr.sel U Z_U 12 x3.2.2.1 (@I.nat .i64 x3.1.1)), ()), ())) fun y4 =>
         brn (bnot y4.1.2.1)
          (.done (some ((Z_S_api_Params, ((I.of .i64 15), ())), ())))
          (.again (((@I.add .i64 x3.1.1 (I.of .i64 1)), ()), (x3.2.1, (x3.2.2.1, ())))))
         (.done (none)))
        (.done (optF (none) (pontageref12_Valid K (((x3.2.2.1.1.1, (x3.2.2.1.2.1.1, (x3.2.2.1.2.2.1.1, (x3.2.2.1.2.2.2.1, (x3.2.2.1.2.2.2.2.1.1, (x3.2.2.1.2.2.2.2.2.1, (x3.2.2.1.2.2.2.2.2.2.1.1, (x3.2.2.1.2.2.2.2.2.2.2.1, (x3.2.2.1.2.2.2.2.2.2.2.2.1.1, (x3.2.2.1.2.2.2.2.2.2.2.2.2.1.1, (x3.2.2.1.2.2.2.2.2.2.2.2.2.2.1.1, (x3.2.2.1.2.2.2.2.2.2.2.2.2.2.2.1.1, ())))))))))))), ()), ())) fun y4 =>
        brn (bnot y4.1.1)
         (some ((Z_S_api_Params, ((I.of .i64 15), ())), ()))
         (some (((x3.2.2.1.1.1, (x3.2.2.1.2.1.1, (x3.2.2.1.2.2.1.1, (x3.2.2.1.2.2.2.1, (x3.2.2.1.2.2.2.2.1.1, (x3.2.2.1.2.2.2.2.2.1, (x3.2.2.1.2.2.2.2.2.2.1.1, (x3.2.2.1.2.2.2.2.2.2.2.1, (x3.2.2.1.2.2.2.2.2.2.2.2.1.1, (x3.2.2.1.2.2.2.2.2.2.2.2.2.1.1, (x3.2.2.1.2.2.2.2.2.2.2.2.2.2.1.1, (x3.2.2.1.2.2.2.2.2.2.2.2.2.2.2.1.1, ())))))))))))), ((I.of .i64 0), ())), ())))))
     K (((I.of .i64 0), ()), (x0.2.2.2.1, ((@Arr.upd U 12 y2.1.1 (@I.nat .i64 (@I.sub .i64 x0.1.1 (I.of .i64 1))) x0.2.2.1), ()))))
     (none))) fun j0 =>
 brn (@I.ltb .i64 b (I.of .i64 1))
  (some ((Z_S_api_Params, ((I.of .i64 17), ())), ()))
  (brn (@I.ltb .i64 (I.of .i64 12) b)
   (some ((Z_S_api_Params, ((I.of .i64 17), ())), ()))
   (j0 ((b, ()), (a, (c, (Z_S_api_Params, ()))))))
noncomputable def pontageref25_Escrow_Deposit (K : Nat) (x : (⟨[.ptr 0 [], .pl u256], H_pontageref25_Escrow⟩ : Tm).D) : Option (⟨[.pl (.int .i64)], H_pontageref25_Escrow⟩ : Tm).D :=
 let a : U := x.1.1
 let h0 : O_pontageref25_Escrow := x.2.1
 let h1 : (List S_A32_intu8) := x.2.2.1
 let h2 : (List (I .u64)) := x.2.2.2.1
 let h3 : (List S_api_Payment) := x.2.2.2.2.1
 optF (none) (pontageref1_IsZero K ((a, ()), ())) fun y0 =>
 brn y0.1.1
  (some (((I.of .i64 2), ()), (h0, (h1, (h2, (h3, ()))))))
  (optF (none) (pontageref1_Add256 K ((h0.1, (a, ())), ())) fun y1 =>
  brn (@I.neb .i64 y1.1.2.1 (I.of .i64 0))
   (some ((y1.1.2.1, ()), (h0, (h1, (h2, (h3, ()))))))
   (some (((I.of .i64 0), ()), ((y1.1.1, h0.2), (h1, (h2, (h3, ())))))))
noncomputable def pontageref1_AddW (K : Nat) (x : (⟨[.pl (.sl (.int .i64)), .pl (.sl (.int .i64))], []⟩ : Tm).D) : Option (⟨[.whole 0], [.row (.int .i64)]⟩ : Tm).D :=
 let a : (List (I .i64)) := x.1.1
 let b : (List (I .i64)) := x.1.2.1
 iter (none) (fun (x0 : (((List (I .i64)) × ((List (I .i64)) × ((I .i64) × ((I .i64) × Unit)))) × ((List (I .i64)) × Unit))) =>
   jn (fun (x1 : (((List (I .i64)) × ((List (I .i64)) × ((I .i64) × ((I .i64) × Unit)))) × ((List (I .i64)) × Unit))) =>
     jn (fun (x2 : (((List (I .i64)) × ((List (I .i64)) × ((I .i64) × ((I .i64) × Unit)))) × ((List (I .i64)) × Unit))) =>
       brn (@I.ltb .i64 x2.1.2.2.2.1 (I.ofNat .i64 (@lenL (I .i64) x2.1.2.1)))
        (brn (@inB .i64 x2.1.2.2.2.1 (@lenL (I .i64) x2.1.2.1))
         (brn (fitsLen (@lenL (I .i64) (@appL (I .i64) x2.2.1 ((@I.and .i64 (@I.add .i64 x2.1.2.2.1 (@rdL (I .i64) (I.of .i64 0) x2.1.2.1 (@I.nat .i64 x2.1.2.2.2.1))) (I.of .i64 65535)) :: []))))
          (.again ((x2.1.1, (x2.1.2.1, ((@I.shr .i64 .u64 (@I.add .i64 x2.1.2.2.1 (@rdL (I .i64) (I.of .i64 0) x2.1.2.1 (@I.nat .i64 x2.1.2.2.2.1))) (I.of .u64 16)), ((@I.add .i64 x2.1.2.2.2.1 (I.of .i64 1)), ())))), ((@appL (I .i64) x2.2.1 ((@I.and .i64 (@I.add .i64 x2.1.2.2.1 (@rdL (I .i64) (I.of .i64 0) x2.1.2.1 (@I.nat .i64 x2.1.2.2.2.1))) (I.of .i64 65535)) :: [])), ())))
          (.done (none)))
         (.done (none)))
        (brn (fitsLen (@lenL (I .i64) (@appL (I .i64) x2.2.1 ((@I.and .i64 x2.1.2.2.1 (I.of .i64 65535)) :: []))))
         (.again ((x2.1.1, (x2.1.2.1, ((@I.shr .i64 .u64 x2.1.2.2.1 (I.of .u64 16)), ((@I.add .i64 x2.1.2.2.2.1 (I.of .i64 1)), ())))), ((@appL (I .i64) x2.2.1 ((@I.and .i64 x2.1.2.2.1 (I.of .i64 65535)) :: [])), ())))
         (.done (none)))) fun j2 =>
     brn (@I.ltb .i64 x1.1.2.2.2.1 (I.ofNat .i64 (@lenL (I .i64) x1.1.1)))
      (brn (@inB .i64 x1.1.2.2.2.1 (@lenL (I .i64) x1.1.1))
       (j2 ((x1.1.1, (x1.1.2.1, ((@I.add .i64 x1.1.2.2.1 (@rdL (I .i64) (I.of .i64 0) x1.1.1 (@I.nat .i64 x1.1.2.2.2.1))), (x1.1.2.2.2.1, ())))), (x1.2.1, ())))
       (.done (none)))
      (j2 ((x1.1.1, (x1.1.2.1, (x1.1.2.2.1, (x1.1.2.2.2.1, ())))), (x1.2.1, ())))) fun j1 =>
   brn (@I.ltb .i64 x0.1.2.2.2.1 (I.ofNat .i64 (@lenL (I .i64) x0.1.1)))
    (j1 ((x0.1.1, (x0.1.2.1, (x0.1.2.2.1, (x0.1.2.2.2.1, ())))), (x0.2.1, ())))
    (brn (@I.ltb .i64 x0.1.2.2.2.1 (I.ofNat .i64 (@lenL (I .i64) x0.1.2.1)))
     (j1 ((x0.1.1, (x0.1.2.1, (x0.1.2.2.1, (x0.1.2.2.2.1, ())))), (x0.2.1, ())))
     (brn (@I.ltb .i64 (I.of .i64 0) x0.1.2.2.1)
      (j1 ((x0.1.1, (x0.1.2.1, (x0.1.2.2.1, (x0.1.2.2.2.1, ())))), (x0.2.1, ())))
      (.done (some ((), (x0.2.1, ())))))))
 K ((a, (b, ((I.of .i64 0), ((I.of .i64 0), ())))), ([], ()))
noncomputable def pontageref11_Ledger_Supply (K : Nat) (x : (⟨[.bp Y_pontageref11_Ledger], []⟩ : Tm).D) : Option (⟨[.pl (.sl (.int .i64))], []⟩ : Tm).D :=
 let a : S_pontageref11_Ledger := x.1.1
 iter (none) (fun (x0 : ((S_pontageref11_Ledger × ((I .i64) × Unit)) × ((List (I .i64)) × Unit))) =>
   brn (@I.ltb .i64 x0.1.2.1 (I.ofNat .i64 (@lenL S_api_Account x0.1.1.1)))
    (brn (@inB .i64 x0.1.2.1 (@lenL S_api_Account x0.1.1.1))
     (optF (.done (none)) (pontageref1_FromUint256 K (((@rdL S_api_Account Z_S_api_Account x0.1.1.1 (@I.nat .i64 x0.1.2.1)).2.1, ()), ())) fun y1 =>
     optF (.done (none)) (pontageref1_AddW K ((x0.2.1, (y1.1.1, ())), ())) fun y2 =>
     .again ((x0.1.1, ((@I.add .i64 x0.1.2.1 (I.of .i64 1)), ())), (y2.2.1, ())))
     (.done (none)))
    (.done (iter (none) (fun x1 =>
      brn (@I.ltb .i64 x1.1.2.1 (I.of .i64 4))
       (brn (@inB .i64 x1.1.2.1 4)
        (optF (.done (none)) (pontageref1_FromUint256 K (((@Arr.sel U Z_U 4 x1.1.1.2.1 (@I.nat .i64 x1.1.2.1)), ()), ())) fun y2 =>
        optF (.done (none)) (pontageref1_AddW K ((x1.2.1, (y2.1.1, ())), ())) fun y3 =>
        .again ((x1.1.1, ((@I.add .i64 x1.1.2.1 (I.of .i64 1)), ())), (y3.2.1, ())))
        (.done (none)))
       (.done (some ((x1.2.1, ()), ()))))
    K ((x0.1.1, ((I.of .i64 0), ())), (x0.2.1, ())))))
 K ((a, ((I.of .i64 0), ())), ([], ()))
noncomputable def pontageref11_Ledger_Mint (K : Nat) (x : (⟨[.ptr 0 [], .pl (.int .u64), .pl u256], H_pontageref11_Ledger⟩ : Tm).D) : Option (⟨[.pl (.int .i64)], H_pontageref11_Ledger⟩ : Tm).D :=
 let a : (I .u64) := x.1.1
 let b : U := x.1.2.1
 let h0 : O_pontageref11_Ledger := x.2.1
 let h1 : (List S_api_Account) := x.2.2.1
 brn (@I.eqb .u64 a (I.of .u64 0))
  (some (((I.of .i64 2), ()), (h0, (h1, ()))))
  (optF (none) (pontageref11_Ledger_Supply K (((h1, h0.2), ()), ())) fun y0 =>
  optF (none) (pontageref1_FromUint256 K ((b, ()), ())) fun y1 =>
  optF (none) (pontageref1_Add K ((y0.1.1, (y1.1.1, ())), ())) fun y2 =>
  optF (none) (pontageref1_Fits K ((y2.1.1, ()), ())) fun y3 =>
  brn (bnot y3.1.1)
   (some (((I.of .i64 4), ()), (h0, (h1, ()))))
   (optF (none) (pontageref11_Ledger_credit K ((a, (b, ())), (h0, (h1, ())))) fun y4 =>
   some (((I.of .i64 0), ()), (y4.2.1, (y4.2.2.1, ())))))
noncomputable def pontageref25_Escrow_Claimed (K : Nat) (x : (⟨[.bp Y_pontageref25_Escrow, .pl (.int .u64)], []⟩ : Tm).D) : Option (⟨[.pl .bool], []⟩ : Tm).D :=
 let a : S_pontageref25_Escrow := x.1.1
 let b : (I .u64) := x.1.2.1
 iter (none) (fun x0 =>
   brn (@I.ltb .i64 x0.1.2.2.1 (I.ofNat .i64 (@lenL (I .u64) x0.1.1.2.2.1)))
    (brn (@inB .i64 x0.1.2.2.1 (@lenL (I .u64) x0.1.1.2.2.1))
     (brn (@I.eqb .u64 (@rdL (I .u64) (I.of .u64 0) x0.1.1.2.2.1 (@I.nat .i64 x0.1.2.2.1)) x0.1.2.1)
      (.done (some ((true, ()), ())))
      (.again ((x0.1.1, (x0.1.2.1, ((@I.add .i64 x0.1.2.2.1 (I.of .i64 1)), ()))), ())))
     (.done (none)))
    (.done (some ((false, ()), ()))))
 K ((a, (b, ((I.of .i64 0), ()))), ())
noncomputable def pontageref8_up_rec (K : Nat) : Nat → (⟨[.pl (.int .i64), .pl (.int .i64), .pl (.arr 32 (.int .u8)), .pl (.sl (.arr 32 (.int .u8)))], []⟩ : Tm).D → Option (⟨[.pl (.arr 32 (.int .u8)), .pl .bool], []⟩ : Tm).D
 | 0, _ => none
 | k0 + 1, x =>
 let a : (I .i64) := x.1.1
 let b : (I .i64) := x.1.2.1
 let c : S_A32_intu8 := x.1.2.2.1
 let d : (List S_A32_intu8) := x.1.2.2.2.1
 brn (@I.eqb .i64 a (I.of .i64 1))
  (some ((c, ((@I.eqb .i64 (I.ofNat .i64 (@lenL S_A32_intu8 d)) (I.of .i64 0)), ())), ()))
  (brn (@I.eqb .i64 (I.ofNat .i64 (@lenL S_A32_intu8 d)) (I.of .i64 0))
   (some ((c, (false, ())), ()))
   (brn (@inB .i64 (@I.sub .i64 (I.ofNat .i64 (@lenL S_A32_intu8 d)) (I.of .i64 1)) (@lenL S_A32_intu8 d))
    (optF (none) (pontageref8_SplitPoint K ((a, ()), ())) fun y0 =>
    brn (@I.ltb .i64 b y0.1.1)
     (brn (@inB' .i64 (@I.sub .i64 (I.ofNat .i64 (@lenL S_A32_intu8 d)) (I.of .i64 1)) (@lenL S_A32_intu8 d))
      (optF (none) (pontageref8_up_rec K k0 ((y0.1.1, (b, (c, ((@subL S_A32_intu8 d 0 (@I.nat .i64 (@I.sub .i64 (I.ofNat .i64 (@lenL S_A32_intu8 d)) (I.of .i64 1)))), ())))), ())) fun y1 =>
      optF (none) (pontageref7_Node K ((y1.1.1, ((@rdL S_A32_intu8 Z_S_A32_intu8 d (@I.nat .i64 (@I.sub .i64 (I.ofNat .i64 (@lenL S_A32_intu8 d)) (I.of .i64 1)))), ())), ())) fun y2 =>
      some ((y2.1.1, (y1.1.2.1, ())), ()))
      (none))
     (brn (@inB' .i64 (@I.sub .i64 (I.ofNat .i64 (@lenL S_A32_intu8 d)) (I.of .i64 1)) (@lenL S_A32_intu8 d))
      (optF (none) (pontageref8_up_rec K k0 (((@I.sub .i64 a y0.1.1), ((@I.sub .i64 b y0.1.1), (c, ((@subL S_A32_intu8 d 0 (@I.nat .i64 (@I.sub .i64 (I.ofNat .i64 (@lenL S_A32_intu8 d)) (I.of .i64 1)))), ())))), ())) fun y1 =>
      optF (none) (pontageref7_Node K (((@rdL S_A32_intu8 Z_S_A32_intu8 d (@I.nat .i64 (@I.sub .i64 (I.ofNat .i64 (@lenL S_A32_intu8 d)) (I.of .i64 1)))), (y1.1.1, ())), ())) fun y2 =>
      some ((y2.1.1, (y1.1.2.1, ())), ()))
      (none)))
    (none)))
noncomputable def pontageref8_up (K : Nat) (x : (⟨[.pl (.int .i64), .pl (.int .i64), .pl (.arr 32 (.int .u8)), .pl (.sl (.arr 32 (.int .u8)))], []⟩ : Tm).D) : Option (⟨[.pl (.arr 32 (.int .u8)), .pl .bool], []⟩ : Tm).D := pontageref8_up_rec K K x
noncomputable def pontageref8_Verify (K : Nat) (x : (⟨[.pl (.arr 32 (.int .u8)), .pl (.int .i64), .pl (.int .i64), .pl (.arr 32 (.int .u8)), .pl (.sl (.arr 32 (.int .u8)))], []⟩ : Tm).D) : Option (⟨[.pl .bool], []⟩ : Tm).D :=
 let a : S_A32_intu8 := x.1.1
 let b : (I .i64) := x.1.2.1
 let c : (I .i64) := x.1.2.2.1
 let d : S_A32_intu8 := x.1.2.2.2.1
 let e : (List S_A32_intu8) := x.1.2.2.2.2.1
 jn (fun (x0 : (((I .i64) × ((I .i64) × ((List S_A32_intu8) × Unit))) × (S_A32_intu8 × (S_A32_intu8 × Unit)))) =>
   optF (none) (pontageref8_up K ((x0.1.1, (x0.1.2.1, (x0.2.2.1, (x0.1.2.2.1, ())))), ())) fun y1 =>
   brn y1.1.2.1
    (some (((Ty.eqb (.arr 32 (.int .u8)) y1.1.1 x0.2.1), ()), ()))
    (some ((false, ()), ()))) fun j0 =>
 brn (@I.ltb .i64 c (I.of .i64 0))
  (some ((false, ()), ()))
  (brn (@I.leb .i64 b c)
   (some ((false, ()), ()))
   (brn (@I.ltb .i64 (I.of .i64 64) (I.ofNat .i64 (@lenL S_A32_intu8 e)))
    (some ((false, ()), ()))
    (j0 ((b, (c, (e, ()))), (a, (d, ()))))))
noncomputable def pontageref25_Escrow_L1Balance (K : Nat) (x : (⟨[.bp Y_pontageref25_Escrow, .pl (.int .u64)], []⟩ : Tm).D) : Option (⟨[.pl u256], []⟩ : Tm).D :=
 let a : S_pontageref25_Escrow := x.1.1
 let b : (I .u64) := x.1.2.1
 iter (none) (fun x0 =>
   brn (@I.ltb .i64 x0.1.2.2.1 (I.ofNat .i64 (@lenL S_api_Payment x0.1.1.2.2.2.1)))
    (brn (@inB .i64 x0.1.2.2.1 (@lenL S_api_Payment x0.1.1.2.2.2.1))
     (brn (@I.eqb .u64 (@rdL S_api_Payment Z_S_api_Payment x0.1.1.2.2.2.1 (@I.nat .i64 x0.1.2.2.1)).1 x0.1.2.1)
      (brn (@inB .i64 x0.1.2.2.1 (@lenL S_api_Payment x0.1.1.2.2.2.1))
       (.done (some (((@rdL S_api_Payment Z_S_api_Payment x0.1.1.2.2.2.1 (@I.nat .i64 x0.1.2.2.1)).2.1, ()), ())))
       (.done (none)))
      (.again ((x0.1.1, (x0.1.2.1, ((@I.add .i64 x0.1.2.2.1 (I.of .i64 1)), ()))), (x0.2.1, ()))))
     (.done (none)))
    (.done (some ((Z_U, ()), ()))))
 K ((a, (b, ((I.of .i64 0), ()))), (Z_U, ()))
noncomputable def pontageref25_Escrow_Claim (K : Nat) (x : (⟨[.ptr 0 [], .pl Y_api_Claim], H_pontageref25_Escrow⟩ : Tm).D) : Option (⟨[.pl (.int .i64)], H_pontageref25_Escrow⟩ : Tm).D :=
 let a : S_api_Claim := x.1.1
 let h0 : O_pontageref25_Escrow := x.2.1
 let h1 : (List S_A32_intu8) := x.2.2.1
 let h2 : (List (I .u64)) := x.2.2.2.1
 let h3 : (List S_api_Payment) := x.2.2.2.2.1
 jn (fun (x0 : (Unit × (O_pontageref25_Escrow × ((List S_A32_intu8) × ((List (I .u64)) × ((List S_api_Payment) × (S_api_Claim × Unit))))))) =>
   jn (fun (x1 : (Unit × (O_pontageref25_Escrow × ((List S_A32_intu8) × ((List (I .u64)) × ((List S_api_Payment) × (S_api_Claim × Unit))))))) =>
     optF (none) (pontageref25_Escrow_Claimed K (((x1.2.1.1, (x1.2.2.1, (x1.2.2.2.1, (x1.2.2.2.2.1, x1.2.1.2.2.2.2)))), (x1.2.2.2.2.2.1.1, ())), ())) fun y2 =>
     brn y2.1.1
      (some (((I.of .i64 9), ()), (x1.2.1, (x1.2.2.1, (x1.2.2.2.1, (x1.2.2.2.2.1, ()))))))
      (brn (@inB .u64 (@I.sub .u64 x1.2.2.2.2.2.1.2.1 (I.of .u64 1)) (@lenL S_A32_intu8 x1.2.2.1))
       (optF (none) (pontageref24_Leaf K (((x1.2.2.2.2.2.1.1, (x1.2.2.2.2.2.1.2.2.1, (x1.2.2.2.2.2.1.2.2.2.1, ()))), ()), ())) fun y3 =>
       optF (none) (pontageref8_Verify K (((@rdL S_A32_intu8 Z_S_A32_intu8 x1.2.2.1 (@I.nat .u64 (@I.sub .u64 x1.2.2.2.2.2.1.2.1 (I.of .u64 1)))), ((I.conv (k := .u64) .i64 x1.2.2.2.2.2.1.2.1), ((I.conv (k := .u64) .i64 x1.2.2.2.2.2.1.1), (y3.1.1, (x1.2.2.2.2.2.1.2.2.2.2.1, ()))))), ())) fun y4 =>
       brn (bnot y4.1.1)
        (some (((I.of .i64 16), ()), (x1.2.1, (x1.2.2.1, (x1.2.2.2.1, (x1.2.2.2.2.1, ()))))))
        (optF (none) (pontageref1_Sub256 K ((x1.2.1.1, (x1.2.2.2.2.2.1.2.2.2.1, ())), ())) fun y5 =>
        brn (@I.neb .i64 y5.1.2.1 (I.of .i64 0))
         (some (((I.of .i64 10), ()), (x1.2.1, (x1.2.2.1, (x1.2.2.2.1, (x1.2.2.2.2.1, ()))))))
         (optF (none) (pontageref25_Escrow_L1Balance K (((x1.2.1.1, (x1.2.2.1, (x1.2.2.2.1, (x1.2.2.2.2.1, x1.2.1.2.2.2.2)))), (x1.2.2.2.2.2.1.2.2.1, ())), ())) fun y6 =>
         optF (none) (pontageref1_Add256 K ((y6.1.1, (x1.2.2.2.2.2.1.2.2.2.1, ())), ())) fun y7 =>
         brn (@I.neb .i64 y7.1.2.1 (I.of .i64 0))
          (some ((y7.1.2.1, ()), (x1.2.1, (x1.2.2.1, (x1.2.2.2.1, (x1.2.2.2.2.1, ()))))))
          (brn (fitsLen (@lenL (I .u64) (@appL (I .u64) x1.2.2.2.1 (x1.2.2.2.2.2.1.1 :: []))))
           (iter (none) (fun (x8 : (((I .i64) × Unit) × (O_pontageref25_Escrow × ((List S_A32_intu8) × ((List (I .u64)) × ((List S_api_Payment) × (S_api_Claim × (U × Unit)))))))) =>
             brn (@I.ltb .i64 x8.1.1 (I.ofNat .i64 (@lenL S_api_Payment x8.2.2.2.2.1)))
              (brn (@inB .i64 x8.1.1 (@lenL S_api_Payment x8.2.2.2.2.1))
               (brn (@I.eqb .u64 (@rdL S_api_Payment Z_S_api_Payment x8.2.2.2.2.1 (@I.nat .i64 x8.1.1)).1 x8.2.2.2.2.2.1.2.2.1)
                (brn (@inB .i64 x8.1.1 (@lenL S_api_Payment x8.2.2.2.2.1))
                 (.done (some (((I.of .i64 0), ()), (x8.2.1, (x8.2.2.1, (x8.2.2.2.1, ((@setL S_api_Payment x8.2.2.2.2.1 (@I.nat .i64 x8.1.1) ((@rdL S_api_Payment Z_S_api_Payment x8.2.2.2.2.1 (@I.nat .i64 x8.1.1)).1, (x8.2.2.2.2.2.2.1, (@rdL S_api_Payment Z_S_api_Payment x8.2.2.2.2.1 (@I.nat .i64 x8.1.1)).2.2))), ())))))))
                 (.done (none)))
                (.again (((@I.add .i64 x8.1.1 (I.of .i64 1)), ()), (x8.2.1, (x8.2.2.1, (x8.2.2.2.1, (x8.2.2.2.2.1, (x8.2.2.2.2.2.1, (x8.2.2.2.2.2.2.1, ())))))))))
               (.done (none)))
              (.done (brn (fitsLen (@lenL S_api_Payment (@appL S_api_Payment x8.2.2.2.2.1 ((x8.2.2.2.2.2.1.2.2.1, (x8.2.2.2.2.2.2.1, ())) :: []))))
               (some (((I.of .i64 0), ()), (x8.2.1, (x8.2.2.1, (x8.2.2.2.1, ((@appL S_api_Payment x8.2.2.2.2.1 ((x8.2.2.2.2.2.1.2.2.1, (x8.2.2.2.2.2.2.1, ())) :: [])), ()))))))
               (none))))
           K (((I.of .i64 0), ()), ((y5.1.1, x1.2.1.2), (x1.2.2.1, ((@appL (I .u64) x1.2.2.2.1 (x1.2.2.2.2.2.1.1 :: [])), (x1.2.2.2.2.1, (x1.2.2.2.2.2.1, (y7.1.1, ()))))))))
           (none)))))
       (none))) fun j1 =>
   brn (@I.ltb .u64 x0.2.2.2.2.2.1.2.1 (I.of .u64 1))
    (some (((I.of .i64 8), ()), (x0.2.1, (x0.2.2.1, (x0.2.2.2.1, (x0.2.2.2.2.1, ()))))))
    (brn (@I.ltb .u64 (I.conv (k := .i64) .u64 (I.ofNat .i64 (@lenL S_A32_intu8 x0.2.2.1))) x0.2.2.2.2.2.1.2.1)
     (some (((I.of .i64 8), ()), (x0.2.1, (x0.2.2.1, (x0.2.2.2.1, (x0.2.2.2.2.1, ()))))))
     (brn (@I.leb .u64 x0.2.2.2.2.2.1.2.1 x0.2.2.2.2.2.1.1)
      (some (((I.of .i64 8), ()), (x0.2.1, (x0.2.2.1, (x0.2.2.2.1, (x0.2.2.2.2.1, ()))))))
      (j1 ((), (x0.2.1, (x0.2.2.1, (x0.2.2.2.1, (x0.2.2.2.2.1, (x0.2.2.2.2.2.1, ())))))))))) fun j0 =>
 brn (@I.eqb .u64 a.2.2.1 (I.of .u64 0))
  (some (((I.of .i64 2), ()), (h0, (h1, (h2, (h3, ()))))))
  (optF (none) (pontageref1_IsZero K ((a.2.2.2.1, ()), ())) fun y1 =>
  brn y1.1.1
   (some (((I.of .i64 2), ()), (h0, (h1, (h2, (h3, ()))))))
   (brn (@I.ltb .i64 (I.of .i64 64) (I.ofNat .i64 (@lenL S_A32_intu8 a.2.2.2.2.1)))
    (some (((I.of .i64 2), ()), (h0, (h1, (h2, (h3, ()))))))
    (j0 ((), (h0, (h1, (h2, (h3, (a, ())))))))))
noncomputable def pontageref28_Machine_other (K : Nat) (x : (⟨[.ptr 0 [], .pl Y_api_Step], H_pontageref28_Machine⟩ : Tm).D) : Option (⟨[.pl (.int .i64)], H_pontageref28_Machine⟩ : Tm).D :=
 let a : S_api_Step := x.1.1
 let h0 : O_pontageref28_Machine := x.2.1
 let h1 : O_pontageref11_Ledger := x.2.2.1
 let h2 : O_pontageref25_Escrow := x.2.2.2.1
 let h3 : (List S_api_Message) := x.2.2.2.2.1
 let h4 : (List S_api_Account) := x.2.2.2.2.2.1
 let h5 : (List S_A32_intu8) := x.2.2.2.2.2.2.1
 let h6 : (List (I .u64)) := x.2.2.2.2.2.2.2.1
 let h7 : (List S_api_Payment) := x.2.2.2.2.2.2.2.2.1
 brn (@I.eqb .i64 a.1 (I.of .i64 3))
  (optF (none) (pontageref13_Drain K ((h0.2.2.2.1, (h0.2.1.1, (a.2.2.2.1, ()))), ())) fun y0 =>
  optF (none) (pontageref15_Next K ((h0.2.2.1, (a.2.2.2.1, (y0.1.1, (h0.2.1, ())))), ())) fun y1 =>
  brn (@I.eqb .i64 y1.1.2.1 (I.of .i64 0))
   (some ((y1.1.2.1, ()), ((h0.1, (h0.2.1, (y1.1.1, (y0.1.1, h0.2.2.2.2)))), (h1, (h2, (h3, (h4, (h5, (h6, (h7, ()))))))))))
   (some ((y1.1.2.1, ()), (h0, (h1, (h2, (h3, (h4, (h5, (h6, (h7, ())))))))))))
  (brn (@I.eqb .i64 a.1 (I.of .i64 4))
   (optF (none) (pontageref12_Set K ((h0.2.1, (a.2.2.2.2.1, (a.2.2.2.2.2.1, ()))), ())) fun y0 =>
   brn (@I.eqb .i64 y0.1.2.1 (I.of .i64 0))
    (some ((y0.1.2.1, ()), ((h0.1, (y0.1.1, h0.2.2)), (h1, (h2, (h3, (h4, (h5, (h6, (h7, ()))))))))))
    (some ((y0.1.2.1, ()), (h0, (h1, (h2, (h3, (h4, (h5, (h6, (h7, ())))))))))))
   (brn (@I.eqb .i64 a.1 (I.of .i64 5))
    (optF (none) (pontageref21_AddPoster K ((h0.2.2.2.2.1, (a.2.2.2.2.2.2.1, ())), ())) fun y0 =>
    brn (@I.eqb .i64 y0.1.2.1 (I.of .i64 0))
     (some ((y0.1.2.1, ()), ((h0.1, (h0.2.1, (h0.2.2.1, (h0.2.2.2.1, (y0.1.1, h0.2.2.2.2.2))))), (h1, (h2, (h3, (h4, (h5, (h6, (h7, ()))))))))))
     (some ((y0.1.2.1, ()), (h0, (h1, (h2, (h3, (h4, (h5, (h6, (h7, ())))))))))))
    (brn (@I.eqb .i64 a.1 (I.of .i64 6))
     (jn (fun (x0 : (Unit × (O_pontageref28_Machine × (O_pontageref11_Ledger × ((List S_api_Account) × ((List S_api_Message) × (O_pontageref25_Escrow × ((List S_A32_intu8) × ((List (I .u64)) × ((List S_api_Payment) × (S_api_Step × Unit))))))))))) =>
       optF (none) (pontageref1_FromUint256 K ((x0.2.2.2.2.2.1.1, ()), ())) fun y1 =>
       optF (none) (pontageref1_FromUint256 K ((x0.2.2.2.2.2.2.2.2.2.1.2.2.2.2.2.1, ()), ())) fun y2 =>
       optF (none) (pontageref1_Add K ((y1.1.1, (y2.1.1, ())), ())) fun y3 =>
       optF (none) (pontageref1_Fits K ((y3.1.1, ()), ())) fun y4 =>
       brn (bnot y4.1.1)
        (some (((I.of .i64 4), ()), (x0.2.1, (x0.2.2.1, (x0.2.2.2.2.2.1, (x0.2.2.2.2.1, (x0.2.2.2.1, (x0.2.2.2.2.2.2.1, (x0.2.2.2.2.2.2.2.1, (x0.2.2.2.2.2.2.2.2.1, ()))))))))))
        (optF (none) (pontageref25_Escrow_Deposit K ((x0.2.2.2.2.2.2.2.2.2.1.2.2.2.2.2.1, ()), (x0.2.2.2.2.2.1, (x0.2.2.2.2.2.2.1, (x0.2.2.2.2.2.2.2.1, (x0.2.2.2.2.2.2.2.2.1, ())))))) fun y5 =>
        optF (none) (pontageref11_Ledger_Mint K ((x0.2.2.2.2.2.2.2.2.2.1.2.2.2.2.2.2.1, (x0.2.2.2.2.2.2.2.2.2.1.2.2.2.2.2.1, ())), (x0.2.2.1, (x0.2.2.2.1, ())))) fun y6 =>
        some ((y6.1.1, ()), (x0.2.1, (y6.2.1, (y5.2.1, (x0.2.2.2.2.1, (y6.2.2.1, (y5.2.2.1, (y5.2.2.2.1, (y5.2.2.2.2.1, ()))))))))))) fun j0 =>
     brn (@I.eqb .u64 a.2.2.2.2.2.2.1 (I.of .u64 0))
      (some (((I.of .i64 2), ()), (h0, (h1, (h2, (h3, (h4, (h5, (h6, (h7, ()))))))))))
      (brn (@I.eqb .u64 a.2.2.2.2.2.2.1 (I.of .u64 18446744073709551615))
       (some (((I.of .i64 2), ()), (h0, (h1, (h2, (h3, (h4, (h5, (h6, (h7, ()))))))))))
       (optF (none) (pontageref1_IsZero K ((a.2.2.2.2.2.1, ()), ())) fun y1 =>
       brn y1.1.1
        (some (((I.of .i64 2), ()), (h0, (h1, (h2, (h3, (h4, (h5, (h6, (h7, ()))))))))))
        (j0 ((), (h0, (h1, (h4, (h3, (h2, (h5, (h6, (h7, (a, ()))))))))))))))
     (optF (none) (pontageref25_Escrow_Claim K ((a.2.2.2.2.2.2.2.1, ()), (h2, (h5, (h6, (h7, ())))))) fun y0 =>
     some ((y0.1.1, ()), (h0, (h1, (y0.2.1, (h3, (h4, (y0.2.2.1, (y0.2.2.2.1, (y0.2.2.2.2.1, ())))))))))))))
noncomputable def pontageref28_Machine_Execute (K : Nat) (x : (⟨[.ptr 0 [], .pl Y_api_Step], H_pontageref28_Machine⟩ : Tm).D) : Option (⟨[.pl Y_api_Receipt], H_pontageref28_Machine⟩ : Tm).D :=
 let a : S_api_Step := x.1.1
 let h0 : O_pontageref28_Machine := x.2.1
 let h1 : O_pontageref11_Ledger := x.2.2.1
 let h2 : O_pontageref25_Escrow := x.2.2.2.1
 let h3 : (List S_api_Message) := x.2.2.2.2.1
 let h4 : (List S_api_Account) := x.2.2.2.2.2.1
 let h5 : (List S_A32_intu8) := x.2.2.2.2.2.2.1
 let h6 : (List (I .u64)) := x.2.2.2.2.2.2.2.1
 let h7 : (List S_api_Payment) := x.2.2.2.2.2.2.2.2.1
 jn (fun (x0 : (Unit × (O_pontageref28_Machine × (O_pontageref11_Ledger × ((List S_api_Account) × ((List S_api_Message) × (O_pontageref25_Escrow × ((List S_A32_intu8) × ((List (I .u64)) × ((List S_api_Payment) × (S_api_Step × (((I .i64) × ((I .i64) × (S_api_Charge × (U × (U × ((I .u64) × (U × (U × (Unit × Unit))))))))) × ((List S_api_Message) × Unit))))))))))))) =>
   optF (none) (pontageref26_ValidKind K ((x0.2.2.2.2.2.2.2.2.2.1.1, ()), ())) fun y1 =>
   brn (bnot y1.1.1)
    (some ((((I.of .i64 0), ((I.of .i64 17), (Z_S_api_Charge, (Z_U, (Z_U, ((I.of .u64 0), (Z_U, (Z_U, ([], ()))))))))), ()), (x0.2.1, (x0.2.2.1, (x0.2.2.2.2.2.1, (x0.2.2.2.2.1, (x0.2.2.2.1, (x0.2.2.2.2.2.2.1, (x0.2.2.2.2.2.2.2.1, (x0.2.2.2.2.2.2.2.2.1, ()))))))))))
    (brn (@I.eqb .i64 x0.2.2.2.2.2.2.2.2.2.1.1 (I.of .i64 1))
     (optF (none) (pontageref28_Machine_tx K ((x0.2.2.2.2.2.2.2.2.2.1.2.1, ()), (x0.2.1, (x0.2.2.1, (x0.2.2.2.2.2.1, (x0.2.2.2.2.1, (x0.2.2.2.1, (x0.2.2.2.2.2.2.1, (x0.2.2.2.2.2.2.2.1, (x0.2.2.2.2.2.2.2.2.1, ())))))))))) fun y2 =>
     some (((x0.2.2.2.2.2.2.2.2.2.1.1, y2.1.1.2), ()), y2.2))
     (brn (@I.eqb .i64 x0.2.2.2.2.2.2.2.2.2.1.1 (I.of .i64 2))
      (optF (none) (pontageref28_Machine_report K ((x0.2.2.2.2.2.2.2.2.2.1.2.2.1, ()), (x0.2.1, (x0.2.2.1, (x0.2.2.2.2.2.1, (x0.2.2.2.2.1, (x0.2.2.2.1, (x0.2.2.2.2.2.2.1, (x0.2.2.2.2.2.2.2.1, (x0.2.2.2.2.2.2.2.2.1, ())))))))))) fun y2 =>
      some (((x0.2.2.2.2.2.2.2.2.2.1.1, y2.1.1.2), ()), y2.2))
      (optF (none) (pontageref28_Machine_other K ((x0.2.2.2.2.2.2.2.2.2.1, ()), (x0.2.1, (x0.2.2.1, (x0.2.2.2.2.2.1, (x0.2.2.2.2.1, (x0.2.2.2.1, (x0.2.2.2.2.2.2.1, (x0.2.2.2.2.2.2.2.1, (x0.2.2.2.2.2.2.2.2.1, ())))))))))) fun y2 =>
      some (((x0.2.2.2.2.2.2.2.2.2.1.1, (y2.1.1, (Z_S_api_Charge, (Z_U, (Z_U, ((I.of .u64 0), (Z_U, (Z_U, ([], ()))))))))), ()), y2.2))))) fun j0 =>
 brn (@I.neb .u64 (@I.add .u64 h0.1 (I.of .u64 1)) (I.of .u64 0))
  (j0 ((), (((@I.add .u64 h0.1 (I.of .u64 1)), h0.2), (h1, (h4, (h3, (h2, (h5, (h6, (h7, (a, (((I.of .i64 0), ((I.of .i64 0), (Z_S_api_Charge, (Z_U, (Z_U, ((I.of .u64 0), (Z_U, (Z_U, ((), ()))))))))), ([], ())))))))))))))
  (j0 ((), (h0, (h1, (h4, (h3, (h2, (h5, (h6, (h7, (a, (((I.of .i64 0), ((I.of .i64 0), (Z_S_api_Charge, (Z_U, (Z_U, ((I.of .u64 0), (Z_U, (Z_U, ((), ()))))))))), ([], ())))))))))))))
noncomputable def pontagelaw0_deposit (K : Nat) (x : (⟨[.pl (.int .i64), .pl (.int .u64), .pl .bool], []⟩ : Tm).D) : Option (⟨[.pl Y_api_Step], []⟩ : Tm).D :=
 let a : (I .i64) := x.1.1
 let b : (I .u64) := x.1.2.1
 let c : Bool := x.1.2.2.1
 brn (@I.eqb .i64 (@I.rem .i64 a (I.of .i64 13)) (I.of .i64 5))
  (some ((((I.of .i64 6), (((I.of .u64 0), ((I.of .u64 0), ((I.of .u64 0), (Z_U, ((I.of .u64 0), (Z_U, (Z_U, ((I.of .u64 0), ([], ()))))))))), (Z_S_api_Message, ((I.of .u64 0), ((I.of .i64 0), (((@I.add .u64 (I.of .u64 4503599627370496) (I.conv (k := .i64) .u64 (@I.rem .i64 a (I.of .i64 100000)))), ((I.of .u64 0), ((I.of .u64 0), ((I.of .u64 0), ())))), ((I.of .u64 9), (((I.of .u64 0), ((I.of .u64 0), ((I.of .u64 0), (Z_U, ([], ()))))), ())))))))), ()), ()))
  (brn (@I.eqb .i64 (@I.rem .i64 a (I.of .i64 31)) (I.of .i64 6))
   (some ((((I.of .i64 6), (((I.of .u64 0), ((I.of .u64 0), ((I.of .u64 0), (Z_U, ((I.of .u64 0), (Z_U, (Z_U, ((I.of .u64 0), ([], ()))))))))), (Z_S_api_Message, ((I.of .u64 0), ((I.of .i64 0), (((@I.add .u64 (I.of .u64 4503599627370496) (I.conv (k := .i64) .u64 (@I.rem .i64 a (I.of .i64 100000)))), ((I.of .u64 0), ((I.of .u64 0), ((I.of .u64 0), ())))), ((I.of .u64 0), (((I.of .u64 0), ((I.of .u64 0), ((I.of .u64 0), (Z_U, ([], ()))))), ())))))))), ()), ()))
   (brn (@I.eqb .i64 (@I.rem .i64 a (I.of .i64 37)) (I.of .i64 7))
    (some ((((I.of .i64 6), (((I.of .u64 0), ((I.of .u64 0), ((I.of .u64 0), (Z_U, ((I.of .u64 0), (Z_U, (Z_U, ((I.of .u64 0), ([], ()))))))))), (Z_S_api_Message, ((I.of .u64 0), ((I.of .i64 0), (((@I.add .u64 (I.of .u64 4503599627370496) (I.conv (k := .i64) .u64 (@I.rem .i64 a (I.of .i64 100000)))), ((I.of .u64 0), ((I.of .u64 0), ((I.of .u64 0), ())))), ((I.of .u64 18446744073709551615), (((I.of .u64 0), ((I.of .u64 0), ((I.of .u64 0), (Z_U, ([], ()))))), ())))))))), ()), ()))
    (brn (@I.eqb .i64 (@I.rem .i64 a (I.of .i64 11)) (I.of .i64 3))
     (some ((((I.of .i64 6), (((I.of .u64 0), ((I.of .u64 0), ((I.of .u64 0), (Z_U, ((I.of .u64 0), (Z_U, (Z_U, ((I.of .u64 0), ([], ()))))))))), (Z_S_api_Message, ((I.of .u64 0), ((I.of .i64 0), (((I.conv (k := .i64) .u64 (@I.rem .i64 a (I.of .i64 50))), ((I.of .u64 0), ((I.of .u64 0), ((I.of .u64 0), ())))), (b, (((I.of .u64 0), ((I.of .u64 0), ((I.of .u64 0), (Z_U, ([], ()))))), ())))))))), ()), ()))
     (brn (@I.eqb .i64 (@I.rem .i64 a (I.of .i64 61)) (I.of .i64 8))
      (brn (bnot c)
       (some ((((I.of .i64 6), (((I.of .u64 0), ((I.of .u64 0), ((I.of .u64 0), (Z_U, ((I.of .u64 0), (Z_U, (Z_U, ((I.of .u64 0), ([], ()))))))))), (Z_S_api_Message, ((I.of .u64 0), ((I.of .i64 0), (((I.of .u64 0), ((I.of .u64 0), ((I.of .u64 0), ((I.of .u64 4611686018427387904), ())))), (b, (((I.of .u64 0), ((I.of .u64 0), ((I.of .u64 0), (Z_U, ([], ()))))), ())))))))), ()), ()))
       (some ((((I.of .i64 6), (((I.of .u64 0), ((I.of .u64 0), ((I.of .u64 0), (Z_U, ((I.of .u64 0), (Z_U, (Z_U, ((I.of .u64 0), ([], ()))))))))), (Z_S_api_Message, ((I.of .u64 0), ((I.of .i64 0), (((@I.add .u64 (I.of .u64 4503599627370496) (I.conv (k := .i64) .u64 (@I.rem .i64 a (I.of .i64 100000)))), ((I.of .u64 0), ((I.of .u64 0), ((I.of .u64 0), ())))), (b, (((I.of .u64 0), ((I.of .u64 0), ((I.of .u64 0), (Z_U, ([], ()))))), ())))))))), ()), ())))
      (some ((((I.of .i64 6), (((I.of .u64 0), ((I.of .u64 0), ((I.of .u64 0), (Z_U, ((I.of .u64 0), (Z_U, (Z_U, ((I.of .u64 0), ([], ()))))))))), (Z_S_api_Message, ((I.of .u64 0), ((I.of .i64 0), (((@I.add .u64 (I.of .u64 4503599627370496) (I.conv (k := .i64) .u64 (@I.rem .i64 a (I.of .i64 100000)))), ((I.of .u64 0), ((I.of .u64 0), ((I.of .u64 0), ())))), (b, (((I.of .u64 0), ((I.of .u64 0), ((I.of .u64 0), (Z_U, ([], ()))))), ())))))))), ()), ()))))))
noncomputable def pontagelaw0_report (K : Nat) (x : (⟨[.pl (.int .i64), .ptr 0 []], H_pontageref28_Machine⟩ : Tm).D) : Option (⟨[.pl Y_api_Message], H_pontageref28_Machine⟩ : Tm).D :=
 let a : (I .i64) := x.1.1
 let h0 : O_pontageref28_Machine := x.2.1
 let h1 : O_pontageref11_Ledger := x.2.2.1
 let h2 : O_pontageref25_Escrow := x.2.2.2.1
 let h3 : (List S_api_Message) := x.2.2.2.2.1
 let h4 : (List S_api_Account) := x.2.2.2.2.2.1
 let h5 : (List S_A32_intu8) := x.2.2.2.2.2.2.1
 let h6 : (List (I .u64)) := x.2.2.2.2.2.2.2.1
 let h7 : (List S_api_Payment) := x.2.2.2.2.2.2.2.2.1
 brn (@I.nz .u64 (@I.add .u64 (@I.mn .u64 (@I.sub .u64 h0.2.2.1.2.1 h0.2.2.2.2.1.2.2.1) (I.of .u64 1099511627776)) (I.of .u64 2)))
  (brn (@I.eqb .i64 (@I.rem .i64 a (I.of .i64 19)) (I.of .i64 4))
   (some ((((@I.add .u64 (I.of .u64 5) (I.conv (k := .i64) .u64 (@I.rem .i64 a (I.of .i64 3)))), ((@I.add .u64 h0.2.2.2.2.1.2.2.1 (@I.rem .u64 (I.conv (k := .i64) .u64 (@I.quo .i64 a (I.of .i64 3))) (@I.add .u64 (@I.mn .u64 (@I.sub .u64 h0.2.2.1.2.1 h0.2.2.2.2.1.2.2.1) (I.of .u64 1099511627776)) (I.of .u64 2)))), (((I.of .u64 0), ((I.of .u64 0), ((I.of .u64 1), ((I.of .u64 0), ())))), ()))), ()), (h0, (h1, (h2, (h3, (h4, (h5, (h6, (h7, ()))))))))))
   (brn (@I.eqb .i64 (@I.rem .i64 a (I.of .i64 23)) (I.of .i64 5))
    (some ((((@I.add .u64 (I.of .u64 5) (I.conv (k := .i64) .u64 (@I.rem .i64 a (I.of .i64 3)))), ((I.conv (k := .i64) .u64 (@I.rem .i64 a (I.of .i64 100))), (((@I.mul .u64 (I.conv (k := .i64) .u64 (@I.rem .i64 (@I.quo .i64 a (I.of .i64 9)) (I.of .i64 5000))) (I.of .u64 20000000)), ((I.of .u64 0), ((I.of .u64 0), ((I.of .u64 0), ())))), ()))), ()), (h0, (h1, (h2, (h3, (h4, (h5, (h6, (h7, ()))))))))))
    (brn (@I.eqb .i64 (@I.rem .i64 a (I.of .i64 29)) (I.of .i64 6))
     (some ((((@I.add .u64 (I.of .u64 5) (I.conv (k := .i64) .u64 (@I.rem .i64 a (I.of .i64 3)))), ((@I.add .u64 h0.2.2.2.2.1.2.2.1 (@I.rem .u64 (I.conv (k := .i64) .u64 (@I.quo .i64 a (I.of .i64 3))) (@I.add .u64 (@I.mn .u64 (@I.sub .u64 h0.2.2.1.2.1 h0.2.2.2.2.1.2.2.1) (I.of .u64 1099511627776)) (I.of .u64 2)))), (((I.of .u64 0), ((I.conv (k := .i64) .u64 (@I.rem .i64 a (I.of .i64 1000))), ((I.of .u64 0), ((I.of .u64 0), ())))), ()))), ()), (h0, (h1, (h2, (h3, (h4, (h5, (h6, (h7, ()))))))))))
     (some ((((@I.add .u64 (I.of .u64 5) (I.conv (k := .i64) .u64 (@I.rem .i64 a (I.of .i64 3)))), ((@I.add .u64 h0.2.2.2.2.1.2.2.1 (@I.rem .u64 (I.conv (k := .i64) .u64 (@I.quo .i64 a (I.of .i64 3))) (@I.add .u64 (@I.mn .u64 (@I.sub .u64 h0.2.2.1.2.1 h0.2.2.2.2.1.2.2.1) (I.of .u64 1099511627776)) (I.of .u64 2)))), (((@I.mul .u64 (I.conv (k := .i64) .u64 (@I.rem .i64 (@I.quo .i64 a (I.of .i64 9)) (I.of .i64 5000))) (I.of .u64 20000000)), ((I.of .u64 0), ((I.of .u64 0), ((I.of .u64 0), ())))), ()))), ()), (h0, (h1, (h2, (h3, (h4, (h5, (h6, (h7, ())))))))))))))
  (none)
noncomputable def pontagelaw0_param (K : Nat) (x : (⟨[.pl (.int .i64)], []⟩ : Tm).D) : Option (⟨[.pl Y_api_Step], []⟩ : Tm).D :=
 let a : (I .i64) := x.1.1
 brn (@inB .i64 (@I.rem .i64 a (I.of .i64 12)) 12)
  (jn (fun (x0 : (((I .i64) × Unit) × (S_api_Step × (S_api_Step × Unit)))) =>
    brn (@I.eqb .i64 (@I.rem .i64 x0.1.1 (I.of .i64 31)) (I.of .i64 4))
     (some (((x0.2.2.1.1, (x0.2.2.1.2.1, (x0.2.2.1.2.2.1, (x0.2.2.1.2.2.2.1, ((@I.rem .i64 x0.1.1 (I.of .i64 40)), x0.2.2.1.2.2.2.2.2))))), ()), ()))
     (some ((x0.2.2.1, ()), ()))) fun j0 =>
  brn (@I.eqb .i64 (@I.rem .i64 a (I.of .i64 17)) (I.of .i64 3))
   (j0 ((a, ()), (((I.of .i64 0), (((I.of .u64 0), ((I.of .u64 0), ((I.of .u64 0), (Z_U, ((I.of .u64 0), (Z_U, (Z_U, ((I.of .u64 0), ([], ()))))))))), (Z_S_api_Message, ((I.of .u64 0), ((I.of .i64 0), (Z_U, ((I.of .u64 0), (((I.of .u64 0), ((I.of .u64 0), ((I.of .u64 0), (Z_U, ([], ()))))), ())))))))), (((I.of .i64 4), (((I.of .u64 0), ((I.of .u64 0), ((I.of .u64 0), (Z_U, ((I.of .u64 0), (Z_U, (Z_U, ((I.of .u64 0), ([], ()))))))))), (Z_S_api_Message, ((I.of .u64 0), ((@I.add .i64 (@I.rem .i64 a (I.of .i64 12)) (I.of .i64 1)), (Z_U, ((I.of .u64 0), (((I.of .u64 0), ((I.of .u64 0), ((I.of .u64 0), (Z_U, ([], ()))))), ())))))))), ()))))
   (j0 ((a, ()), (((I.of .i64 0), (((I.of .u64 0), ((I.of .u64 0), ((I.of .u64 0), (Z_U, ((I.of .u64 0), (Z_U, (Z_U, ((I.of .u64 0), ([], ()))))))))), (Z_S_api_Message, ((I.of .u64 0), ((I.of .i64 0), (Z_U, ((I.of .u64 0), (((I.of .u64 0), ((I.of .u64 0), ((I.of .u64 0), (Z_U, ([], ()))))), ())))))))), (((I.of .i64 4), (((I.of .u64 0), ((I.of .u64 0), ((I.of .u64 0), (Z_U, ((I.of .u64 0), (Z_U, (Z_U, ((I.of .u64 0), ([], ()))))))))), (Z_S_api_Message, ((I.of .u64 0), ((@I.add .i64 (@I.rem .i64 a (I.of .i64 12)) (I.of .i64 1)), (((@Arr.sel (I .u64) (I.of .u64 0) 12 ((@I.add .u64 (I.of .u64 1000000) (@I.rem .u64 (I.conv (k := .i64) .u64 (@I.quo .i64 a (I.of .i64 12))) (I.of .u64 10000000))), ((@I.rem .u64 (I.conv (k := .i64) .u64 (@I.quo .i64 a (I.of .i64 12))) (I.of .u64 20)), ((@I.add .u64 (I.of .u64 1) (@I.rem .u64 (I.conv (k := .i64) .u64 (@I.quo .i64 a (I.of .i64 12))) (I.of .u64 200))), ((@I.add .u64 (I.of .u64 10000000) (@I.rem .u64 (I.conv (k := .i64) .u64 (@I.quo .i64 a (I.of .i64 12))) (I.of .u64 1000000000))), ((@I.add .u64 (I.of .u64 1000000) (@I.rem .u64 (I.conv (k := .i64) .u64 (@I.quo .i64 a (I.of .i64 12))) (I.of .u64 100000000))), ((@I.rem .u64 (I.conv (k := .i64) .u64 (@I.quo .i64 a (I.of .i64 12))) (I.of .u64 200000000)), ((@I.rem .u64 (I.conv (k := .i64) .u64 (@I.quo .i64 a (I.of .i64 12))) (I.of .u64 10300)), ((@I.rem .u64 (I.conv (k := .i64) .u64 (@I.quo .i64 a (I.of .i64 12))) (I.of .u64 1000)), ((@I.add .u64 (I.of .u64 1000) (@I.rem .u64 (I.conv (k := .i64) .u64 (@I.quo .i64 a (I.of .i64 12))) (I.of .u64 1000000000))), ((@I.add .u64 (I.of .u64 1) (@I.rem .u64 (I.conv (k := .i64) .u64 (@I.quo .i64 a (I.of .i64 12))) (I.of .u64 100))), ((@I.rem .u64 (I.conv (k := .i64) .u64 (@I.quo .i64 a (I.of .i64 12))) (I.of .u64 250)), ((@I.add .u64 (I.of .u64 200) (@I.rem .u64 (I.conv (k := .i64) .u64 (@I.quo .i64 a (I.of .i64 12))) (I.of .u64 100000))), ())))))))))))) (@I.nat .i64 (@I.rem .i64 a (I.of .i64 12)))), ((I.of .u64 0), ((I.of .u64 0), ((I.of .u64 0), ())))), ((I.of .u64 0), (((I.of .u64 0), ((I.of .u64 0), ((I.of .u64 0), (Z_U, ([], ()))))), ())))))))), ())))))
  (none)
noncomputable def pontageref8_Proof_rec (K : Nat) : Nat → (⟨[.pl (.sl (.arr 32 (.int .u8))), .pl (.int .i64)], []⟩ : Tm).D → Option (⟨[.whole 0], [.row (.arr 32 (.int .u8))]⟩ : Tm).D
 | 0, _ => none
 | k0 + 1, x =>
 let a : (List S_A32_intu8) := x.1.1
 let b : (I .i64) := x.1.2.1
 brn (@I.ltb .i64 (I.ofNat .i64 (@lenL S_A32_intu8 a)) (I.of .i64 2))
  (some ((), ([], ())))
  (optF (none) (pontageref8_SplitPoint K (((I.ofNat .i64 (@lenL S_A32_intu8 a)), ()), ())) fun y0 =>
  brn (@I.ltb .i64 b y0.1.1)
   (brn (@inB' .i64 y0.1.1 (@lenL S_A32_intu8 a))
    (optF (none) (pontageref8_Proof_rec K k0 (((@subL S_A32_intu8 a 0 (@I.nat .i64 y0.1.1)), (b, ())), ())) fun y1 =>
    brn (@inB' .i64 y0.1.1 (@lenL S_A32_intu8 a))
     (optF (none) (pontageref8_RootOf K (((@subL S_A32_intu8 a (@I.nat .i64 y0.1.1) ((@lenL S_A32_intu8 a) - (@I.nat .i64 y0.1.1))), ()), ())) fun y2 =>
     brn (fitsLen (@lenL S_A32_intu8 (@appL S_A32_intu8 y1.2.1 (y2.1.1 :: []))))
      (some ((), ((@appL S_A32_intu8 y1.2.1 (y2.1.1 :: [])), ())))
      (none))
     (none))
    (none))
   (brn (@inB' .i64 y0.1.1 (@lenL S_A32_intu8 a))
    (optF (none) (pontageref8_Proof_rec K k0 (((@subL S_A32_intu8 a (@I.nat .i64 y0.1.1) ((@lenL S_A32_intu8 a) - (@I.nat .i64 y0.1.1))), ((@I.sub .i64 b y0.1.1), ())), ())) fun y1 =>
    brn (@inB' .i64 y0.1.1 (@lenL S_A32_intu8 a))
     (optF (none) (pontageref8_RootOf K (((@subL S_A32_intu8 a 0 (@I.nat .i64 y0.1.1)), ()), ())) fun y2 =>
     brn (fitsLen (@lenL S_A32_intu8 (@appL S_A32_intu8 y1.2.1 (y2.1.1 :: []))))
      (some ((), ((@appL S_A32_intu8 y1.2.1 (y2.1.1 :: [])), ())))
      (none))
     (none))
    (none)))
noncomputable def pontageref8_Proof (K : Nat) (x : (⟨[.pl (.sl (.arr 32 (.int .u8))), .pl (.int .i64)], []⟩ : Tm).D) : Option (⟨[.whole 0], [.row (.arr 32 (.int .u8))]⟩ : Tm).D := pontageref8_Proof_rec K K x
noncomputable def pontageref24_Proof (K : Nat) (x : (⟨[.pl (.sl Y_api_Message), .pl (.int .i64), .pl (.int .i64)], []⟩ : Tm).D) : Option (⟨[.whole 0, .pl .bool], [.row (.arr 32 (.int .u8))]⟩ : Tm).D :=
 let a : (List S_api_Message) := x.1.1
 let b : (I .i64) := x.1.2.1
 let c : (I .i64) := x.1.2.2.1
 jn (fun (x0 : (((List S_api_Message) × ((I .i64) × ((I .i64) × Unit))) × Unit)) =>
   optF (none) (pontageref24_Leaves K ((x0.1.1, (x0.1.2.2.1, ())), ())) fun y1 =>
   optF (none) (pontageref8_Proof K ((y1.1.1, (x0.1.2.1, ())), ())) fun y2 =>
   some ((true, ()), (y2.2.1, ()))) fun j0 =>
 brn (@I.ltb .i64 b (I.of .i64 0))
  (some ((false, ()), ([], ())))
  (brn (@I.leb .i64 c b)
   (some ((false, ()), ([], ())))
   (brn (@I.ltb .i64 (I.ofNat .i64 (@lenL S_api_Message a)) c)
    (some ((false, ()), ([], ())))
    (j0 ((a, (b, (c, ()))), ()))))
noncomputable def pontageref1_Max256 (K : Nat) (x : (⟨[], []⟩ : Tm).D) : Option (⟨[.pl u256], []⟩ : Tm).D :=
 some ((((I.of .u64 18446744073709551615), ((I.of .u64 18446744073709551615), ((I.of .u64 18446744073709551615), ((I.of .u64 18446744073709551615), ())))), ()), ())
noncomputable def pontagelaw0_HashOf (K : Nat) (x : (⟨[.pl (.int .i64)], []⟩ : Tm).D) : Option (⟨[.pl (.arr 32 (.int .u8))], []⟩ : Tm).D :=
 let a : (I .i64) := x.1.1
 iter (none) (fun x0 =>
   brn (@I.ltb .i64 x0.1.2.1 (I.of .i64 8))
    (brn (@I.nn .u64 (I.conv (k := .i64) .u64 (@I.mul .i64 (I.of .i64 8) x0.1.2.1)))
     (brn (@inB .i64 x0.1.2.1 32)
      (.again ((x0.1.1, ((@I.add .i64 x0.1.2.1 (I.of .i64 1)), ())), (x0.2.1, ((@Arr.upd (I .u8) 32 x0.2.2.1 (@I.nat .i64 x0.1.2.1) (I.conv (k := .u64) .u8 (@I.shr .u64 .u64 (I.conv (k := .i64) .u64 x0.1.1) (I.conv (k := .i64) .u64 (@I.mul .i64 (I.of .i64 8) x0.1.2.1))))), ()))))
      (.done (none)))
     (.done (none)))
    (.done (some ((x0.2.2.1, ()), ()))))
 K ((a, ((I.of .i64 0), ())), (Z_S_A32_intu8, (Z_S_A32_intu8, ())))
noncomputable def pontagelaw0_claim (K : Nat) (x : (⟨[.pl (.int .i64), .ptr 0 []], H_pontageref28_Machine⟩ : Tm).D) : Option (⟨[.pl Y_api_Claim], H_pontageref28_Machine⟩ : Tm).D :=
 let a : (I .i64) := x.1.1
 let h0 : O_pontageref28_Machine := x.2.1
 let h1 : O_pontageref11_Ledger := x.2.2.1
 let h2 : O_pontageref25_Escrow := x.2.2.2.1
 let h3 : (List S_api_Message) := x.2.2.2.2.1
 let h4 : (List S_api_Account) := x.2.2.2.2.2.1
 let h5 : (List S_A32_intu8) := x.2.2.2.2.2.2.1
 let h6 : (List (I .u64)) := x.2.2.2.2.2.2.2.1
 let h7 : (List S_api_Payment) := x.2.2.2.2.2.2.2.2.1
 brn (@I.eqb .i64 (I.ofNat .i64 (@lenL S_api_Message h3)) (I.of .i64 0))
  (some ((((I.conv (k := .i64) .u64 (@I.rem .i64 a (I.of .i64 3))), ((I.conv (k := .i64) .u64 (@I.rem .i64 a (I.of .i64 2))), ((I.of .u64 5), (((I.of .u64 1), ((I.of .u64 0), ((I.of .u64 0), ((I.of .u64 0), ())))), ([], ()))))), ()), (h0, (h1, (h2, (h3, (h4, (h5, (h6, (h7, ()))))))))))
  (brn (@I.nz .i64 (I.ofNat .i64 (@lenL S_api_Message h3)))
   (brn (@I.nz .i64 (@I.sub .i64 (I.ofNat .i64 (@lenL S_api_Message h3)) (@I.rem .i64 a (I.ofNat .i64 (@lenL S_api_Message h3)))))
    (optF (none) (pontageref24_Proof K ((h3, ((@I.rem .i64 a (I.ofNat .i64 (@lenL S_api_Message h3))), ((@I.add .i64 (@I.add .i64 (@I.rem .i64 a (I.ofNat .i64 (@lenL S_api_Message h3))) (I.of .i64 1)) (@I.rem .i64 (@I.quo .i64 a (I.of .i64 7)) (@I.sub .i64 (I.ofNat .i64 (@lenL S_api_Message h3)) (@I.rem .i64 a (I.ofNat .i64 (@lenL S_api_Message h3)))))), ()))), ())) fun y0 =>
    brn (@inB .i64 (@I.rem .i64 a (I.ofNat .i64 (@lenL S_api_Message h3))) (@lenL S_api_Message h3))
     (brn (@inB .i64 (@I.rem .i64 a (I.ofNat .i64 (@lenL S_api_Message h3))) (@lenL S_api_Message h3))
      (brn (@I.eqb .i64 (@I.rem .i64 (@I.quo .i64 a (I.of .i64 3)) (I.of .i64 12)) (I.of .i64 0))
       (optF (none) (pontageref1_FromUint256 K (((@rdL S_api_Message Z_S_api_Message h3 (@I.nat .i64 (@I.rem .i64 a (I.ofNat .i64 (@lenL S_api_Message h3))))).2.2.1, ()), ())) fun y1 =>
       optF (none) (pontageref1_FromUint64 K (((I.of .u64 1), ()), ())) fun y2 =>
       optF (none) (pontageref1_Add K ((y1.1.1, (y2.1.1, ())), ())) fun y3 =>
       optF (none) (pontageref1_Max256 K ((), ())) fun y4 =>
       optF (none) (pontageref1_FromUint256 K ((y4.1.1, ()), ())) fun y5 =>
       optF (none) (pontageref1_Min K ((y3.1.1, (y5.1.1, ())), ())) fun y6 =>
       optF (none) (pontageref1_ToUint256 K ((y6.1.1, ()), ())) fun y7 =>
       some ((((I.conv (k := .i64) .u64 (@I.rem .i64 a (I.ofNat .i64 (@lenL S_api_Message h3)))), ((I.conv (k := .i64) .u64 (@I.add .i64 (@I.add .i64 (@I.rem .i64 a (I.ofNat .i64 (@lenL S_api_Message h3))) (I.of .i64 1)) (@I.rem .i64 (@I.quo .i64 a (I.of .i64 7)) (@I.sub .i64 (I.ofNat .i64 (@lenL S_api_Message h3)) (@I.rem .i64 a (I.ofNat .i64 (@lenL S_api_Message h3))))))), ((@rdL S_api_Message Z_S_api_Message h3 (@I.nat .i64 (@I.rem .i64 a (I.ofNat .i64 (@lenL S_api_Message h3))))).2.1, (y7.1.1, (y0.2.1, ()))))), ()), (h0, (h1, (h2, (h3, (h4, (h5, (h6, (h7, ()))))))))))
       (brn (@I.eqb .i64 (@I.rem .i64 (@I.quo .i64 a (I.of .i64 3)) (I.of .i64 12)) (I.of .i64 1))
        (some ((((I.conv (k := .i64) .u64 (@I.rem .i64 a (I.ofNat .i64 (@lenL S_api_Message h3)))), ((I.conv (k := .i64) .u64 (@I.add .i64 (@I.add .i64 (@I.rem .i64 a (I.ofNat .i64 (@lenL S_api_Message h3))) (I.of .i64 1)) (@I.rem .i64 (@I.quo .i64 a (I.of .i64 7)) (@I.sub .i64 (I.ofNat .i64 (@lenL S_api_Message h3)) (@I.rem .i64 a (I.ofNat .i64 (@lenL S_api_Message h3))))))), ((@I.add .u64 (@rdL S_api_Message Z_S_api_Message h3 (@I.nat .i64 (@I.rem .i64 a (I.ofNat .i64 (@lenL S_api_Message h3))))).2.1 (I.of .u64 1)), ((@rdL S_api_Message Z_S_api_Message h3 (@I.nat .i64 (@I.rem .i64 a (I.ofNat .i64 (@lenL S_api_Message h3))))).2.2.1, (y0.2.1, ()))))), ()), (h0, (h1, (h2, (h3, (h4, (h5, (h6, (h7, ()))))))))))
        (brn (@I.eqb .i64 (@I.rem .i64 (@I.quo .i64 a (I.of .i64 3)) (I.of .i64 12)) (I.of .i64 2))
         (optF (none) (pontagelaw0_HashOf K ((a, ()), ())) fun y1 =>
         brn (fitsLen (@lenL S_A32_intu8 (@appL S_A32_intu8 y0.2.1 (y1.1.1 :: []))))
          (some ((((I.conv (k := .i64) .u64 (@I.rem .i64 a (I.ofNat .i64 (@lenL S_api_Message h3)))), ((I.conv (k := .i64) .u64 (@I.add .i64 (@I.add .i64 (@I.rem .i64 a (I.ofNat .i64 (@lenL S_api_Message h3))) (I.of .i64 1)) (@I.rem .i64 (@I.quo .i64 a (I.of .i64 7)) (@I.sub .i64 (I.ofNat .i64 (@lenL S_api_Message h3)) (@I.rem .i64 a (I.ofNat .i64 (@lenL S_api_Message h3))))))), ((@rdL S_api_Message Z_S_api_Message h3 (@I.nat .i64 (@I.rem .i64 a (I.ofNat .i64 (@lenL S_api_Message h3))))).2.1, ((@rdL S_api_Message Z_S_api_Message h3 (@I.nat .i64 (@I.rem .i64 a (I.ofNat .i64 (@lenL S_api_Message h3))))).2.2.1, ((@appL S_A32_intu8 y0.2.1 (y1.1.1 :: [])), ()))))), ()), (h0, (h1, (h2, (h3, (h4, (h5, (h6, (h7, ()))))))))))
          (none))
         (brn (@I.eqb .i64 (@I.rem .i64 (@I.quo .i64 a (I.of .i64 3)) (I.of .i64 12)) (I.of .i64 3))
          (brn (@I.nz .i64 (@I.add .i64 (I.ofNat .i64 (@lenL S_api_Message h3)) (I.of .i64 3)))
           (some ((((I.conv (k := .i64) .u64 (@I.rem .i64 a (I.ofNat .i64 (@lenL S_api_Message h3)))), ((I.conv (k := .i64) .u64 (@I.rem .i64 a (@I.add .i64 (I.ofNat .i64 (@lenL S_api_Message h3)) (I.of .i64 3)))), ((@rdL S_api_Message Z_S_api_Message h3 (@I.nat .i64 (@I.rem .i64 a (I.ofNat .i64 (@lenL S_api_Message h3))))).2.1, ((@rdL S_api_Message Z_S_api_Message h3 (@I.nat .i64 (@I.rem .i64 a (I.ofNat .i64 (@lenL S_api_Message h3))))).2.2.1, (y0.2.1, ()))))), ()), (h0, (h1, (h2, (h3, (h4, (h5, (h6, (h7, ()))))))))))
           (none))
          (some ((((I.conv (k := .i64) .u64 (@I.rem .i64 a (I.ofNat .i64 (@lenL S_api_Message h3)))), ((I.conv (k := .i64) .u64 (@I.add .i64 (@I.add .i64 (@I.rem .i64 a (I.ofNat .i64 (@lenL S_api_Message h3))) (I.of .i64 1)) (@I.rem .i64 (@I.quo .i64 a (I.of .i64 7)) (@I.sub .i64 (I.ofNat .i64 (@lenL S_api_Message h3)) (@I.rem .i64 a (I.ofNat .i64 (@lenL S_api_Message h3))))))), ((@rdL S_api_Message Z_S_api_Message h3 (@I.nat .i64 (@I.rem .i64 a (I.ofNat .i64 (@lenL S_api_Message h3))))).2.1, ((@rdL S_api_Message Z_S_api_Message h3 (@I.nat .i64 (@I.rem .i64 a (I.ofNat .i64 (@lenL S_api_Message h3))))).2.2.1, (y0.2.1, ()))))), ()), (h0, (h1, (h2, (h3, (h4, (h5, (h6, (h7, ()))))))))))))))
      (none))
     (none))
    (none))
   (none))
noncomputable def pontagelaw0_transaction (K : Nat) (x : (⟨[.pl (.int .i64), .pl (.int .u64), .ptr 0 []], H_pontageref28_Machine⟩ : Tm).D) : Option (⟨[.pl Y_api_Transaction], H_pontageref28_Machine⟩ : Tm).D :=
 let a : (I .i64) := x.1.1
 let b : (I .u64) := x.1.2.1
 let h0 : O_pontageref28_Machine := x.2.1
 let h1 : O_pontageref11_Ledger := x.2.2.1
 let h2 : O_pontageref25_Escrow := x.2.2.2.1
 let h3 : (List S_api_Message) := x.2.2.2.2.1
 let h4 : (List S_api_Account) := x.2.2.2.2.2.1
 let h5 : (List S_A32_intu8) := x.2.2.2.2.2.2.1
 let h6 : (List (I .u64)) := x.2.2.2.2.2.2.2.1
 let h7 : (List S_api_Payment) := x.2.2.2.2.2.2.2.2.1
 optF (none) (pontageref11_Ledger_Get K (((h4, h1.2), (b, ())), ())) fun y0 =>
 brn (@inB .i64 (@I.rem .i64 a (I.of .i64 6)) 6)
  (optF (none) (pontageref1_FromUint256 K ((h0.2.2.1.2.2.2.1, ()), ())) fun y1 =>
  optF (none) (pontageref1_FromUint64 K (((I.conv (k := .i64) .u64 (@I.add .i64 (I.of .i64 1) (@I.rem .i64 a (I.of .i64 3)))), ()), ())) fun y2 =>
  optF (none) (pontageref1_Mul K ((y1.1.1, (y2.1.1, ())), ())) fun y3 =>
  optF (none) (pontageref1_ToUint256 K ((y3.1.1, ()), ())) fun y4 =>
  brn (@inB' .i64 (@I.rem .i64 (@I.quo .i64 a (I.of .i64 5)) (I.of .i64 5)) 4)
   (optF (none) (pontagelaw0_RepetitiveBytes K (((@subL (I .i64) (a :: ((@I.quo .i64 a (I.of .i64 3)) :: ((@I.quo .i64 a (I.of .i64 7)) :: ((@I.quo .i64 a (I.of .i64 11)) :: [])))) 0 (@I.nat .i64 (@I.rem .i64 (@I.quo .i64 a (I.of .i64 5)) (I.of .i64 5)))), ()), ())) fun y5 =>
   brn (@I.eqb .i64 (@I.rem .i64 a (I.of .i64 29)) (I.of .i64 1))
    (some (((b, ((@I.add .u64 y0.1.1.2.2.1 (I.of .u64 1)), ((@Arr.sel (I .u64) (I.of .u64 0) 6 ((I.of .u64 1), ((I.of .u64 2), ((I.of .u64 3), ((I.of .u64 4), ((I.of .u64 9), ((I.of .u64 18446744073709551615), ())))))) (@I.nat .i64 (@I.rem .i64 a (I.of .i64 6)))), (((@I.mul .u64 (I.conv (k := .i64) .u64 (@I.rem .i64 (@I.quo .i64 a (I.of .i64 6)) (I.of .i64 1000))) (I.of .u64 1000003)), ((I.of .u64 0), ((I.of .u64 0), ((I.of .u64 0), ())))), ((@I.add .u64 (I.of .u64 40000) (@I.mul .u64 (I.conv (k := .i64) .u64 (@I.rem .i64 (@I.quo .i64 a (I.of .i64 6000)) (I.of .i64 64))) (I.of .u64 5000))), (y4.1.1, (((@I.mul .u64 (I.conv (k := .i64) .u64 (@I.rem .i64 a (I.of .i64 7))) (I.of .u64 100000)), ((I.of .u64 0), ((I.of .u64 0), ((I.of .u64 0), ())))), ((@I.mul .u64 (I.conv (k := .i64) .u64 (@I.rem .i64 (@I.quo .i64 a (I.of .i64 11)) (I.of .i64 50))) (I.of .u64 3000)), (y5.1.1, ()))))))))), ()), (h0, (h1, (h2, (h3, (h4, (h5, (h6, (h7, ()))))))))))
    (brn (@I.eqb .i64 (@I.rem .i64 a (I.of .i64 31)) (I.of .i64 2))
     (some (((b, (y0.1.1.2.2.1, ((@Arr.sel (I .u64) (I.of .u64 0) 6 ((I.of .u64 1), ((I.of .u64 2), ((I.of .u64 3), ((I.of .u64 4), ((I.of .u64 9), ((I.of .u64 18446744073709551615), ())))))) (@I.nat .i64 (@I.rem .i64 a (I.of .i64 6)))), (((I.of .u64 0), ((I.of .u64 0), ((I.of .u64 1), ((I.of .u64 0), ())))), ((@I.add .u64 (I.of .u64 40000) (@I.mul .u64 (I.conv (k := .i64) .u64 (@I.rem .i64 (@I.quo .i64 a (I.of .i64 6000)) (I.of .i64 64))) (I.of .u64 5000))), (y4.1.1, (((@I.mul .u64 (I.conv (k := .i64) .u64 (@I.rem .i64 a (I.of .i64 7))) (I.of .u64 100000)), ((I.of .u64 0), ((I.of .u64 0), ((I.of .u64 0), ())))), ((@I.mul .u64 (I.conv (k := .i64) .u64 (@I.rem .i64 (@I.quo .i64 a (I.of .i64 11)) (I.of .i64 50))) (I.of .u64 3000)), (y5.1.1, ()))))))))), ()), (h0, (h1, (h2, (h3, (h4, (h5, (h6, (h7, ()))))))))))
     (brn (@I.eqb .i64 (@I.rem .i64 a (I.of .i64 37)) (I.of .i64 3))
      (some (((b, (y0.1.1.2.2.1, ((@Arr.sel (I .u64) (I.of .u64 0) 6 ((I.of .u64 1), ((I.of .u64 2), ((I.of .u64 3), ((I.of .u64 4), ((I.of .u64 9), ((I.of .u64 18446744073709551615), ())))))) (@I.nat .i64 (@I.rem .i64 a (I.of .i64 6)))), (((@I.mul .u64 (I.conv (k := .i64) .u64 (@I.rem .i64 (@I.quo .i64 a (I.of .i64 6)) (I.of .i64 1000))) (I.of .u64 1000003)), ((I.of .u64 0), ((I.of .u64 0), ((I.of .u64 0), ())))), ((I.of .u64 35184372088832), (y4.1.1, (((@I.mul .u64 (I.conv (k := .i64) .u64 (@I.rem .i64 a (I.of .i64 7))) (I.of .u64 100000)), ((I.of .u64 0), ((I.of .u64 0), ((I.of .u64 0), ())))), ((@I.mul .u64 (I.conv (k := .i64) .u64 (@I.rem .i64 (@I.quo .i64 a (I.of .i64 11)) (I.of .i64 50))) (I.of .u64 3000)), (y5.1.1, ()))))))))), ()), (h0, (h1, (h2, (h3, (h4, (h5, (h6, (h7, ()))))))))))
      (brn (@I.eqb .i64 (@I.rem .i64 a (I.of .i64 41)) (I.of .i64 4))
       (some (((b, (y0.1.1.2.2.1, ((@Arr.sel (I .u64) (I.of .u64 0) 6 ((I.of .u64 1), ((I.of .u64 2), ((I.of .u64 3), ((I.of .u64 4), ((I.of .u64 9), ((I.of .u64 18446744073709551615), ())))))) (@I.nat .i64 (@I.rem .i64 a (I.of .i64 6)))), (((@I.mul .u64 (I.conv (k := .i64) .u64 (@I.rem .i64 (@I.quo .i64 a (I.of .i64 6)) (I.of .i64 1000))) (I.of .u64 1000003)), ((I.of .u64 0), ((I.of .u64 0), ((I.of .u64 0), ())))), ((@I.add .u64 (I.of .u64 40000) (@I.mul .u64 (I.conv (k := .i64) .u64 (@I.rem .i64 (@I.quo .i64 a (I.of .i64 6000)) (I.of .i64 64))) (I.of .u64 5000))), (((I.of .u64 1), ((I.of .u64 0), ((I.of .u64 0), ((I.of .u64 0), ())))), (((@I.mul .u64 (I.conv (k := .i64) .u64 (@I.rem .i64 a (I.of .i64 7))) (I.of .u64 100000)), ((I.of .u64 0), ((I.of .u64 0), ((I.of .u64 0), ())))), ((@I.mul .u64 (I.conv (k := .i64) .u64 (@I.rem .i64 (@I.quo .i64 a (I.of .i64 11)) (I.of .i64 50))) (I.of .u64 3000)), (y5.1.1, ()))))))))), ()), (h0, (h1, (h2, (h3, (h4, (h5, (h6, (h7, ()))))))))))
       (brn (@I.eqb .i64 (@I.rem .i64 a (I.of .i64 43)) (I.of .i64 5))
        (some (((b, (y0.1.1.2.2.1, ((I.of .u64 0), (((@I.mul .u64 (I.conv (k := .i64) .u64 (@I.rem .i64 (@I.quo .i64 a (I.of .i64 6)) (I.of .i64 1000))) (I.of .u64 1000003)), ((I.of .u64 0), ((I.of .u64 0), ((I.of .u64 0), ())))), ((@I.add .u64 (I.of .u64 40000) (@I.mul .u64 (I.conv (k := .i64) .u64 (@I.rem .i64 (@I.quo .i64 a (I.of .i64 6000)) (I.of .i64 64))) (I.of .u64 5000))), (y4.1.1, (((@I.mul .u64 (I.conv (k := .i64) .u64 (@I.rem .i64 a (I.of .i64 7))) (I.of .u64 100000)), ((I.of .u64 0), ((I.of .u64 0), ((I.of .u64 0), ())))), ((@I.mul .u64 (I.conv (k := .i64) .u64 (@I.rem .i64 (@I.quo .i64 a (I.of .i64 11)) (I.of .i64 50))) (I.of .u64 3000)), (y5.1.1, ()))))))))), ()), (h0, (h1, (h2, (h3, (h4, (h5, (h6, (h7, ()))))))))))
        (brn (@I.eqb .i64 (@I.rem .i64 a (I.of .i64 47)) (I.of .i64 6))
         (optF (none) (pontageref1_Max256 K ((), ())) fun y6 =>
         optF (none) (pontageref1_Max256 K ((), ())) fun y7 =>
         some (((b, (y0.1.1.2.2.1, ((@Arr.sel (I .u64) (I.of .u64 0) 6 ((I.of .u64 1), ((I.of .u64 2), ((I.of .u64 3), ((I.of .u64 4), ((I.of .u64 9), ((I.of .u64 18446744073709551615), ())))))) (@I.nat .i64 (@I.rem .i64 a (I.of .i64 6)))), (((@I.mul .u64 (I.conv (k := .i64) .u64 (@I.rem .i64 (@I.quo .i64 a (I.of .i64 6)) (I.of .i64 1000))) (I.of .u64 1000003)), ((I.of .u64 0), ((I.of .u64 0), ((I.of .u64 0), ())))), ((@I.add .u64 (I.of .u64 40000) (@I.mul .u64 (I.conv (k := .i64) .u64 (@I.rem .i64 (@I.quo .i64 a (I.of .i64 6000)) (I.of .i64 64))) (I.of .u64 5000))), (y7.1.1, (y6.1.1, ((@I.mul .u64 (I.conv (k := .i64) .u64 (@I.rem .i64 (@I.quo .i64 a (I.of .i64 11)) (I.of .i64 50))) (I.of .u64 3000)), (y5.1.1, ()))))))))), ()), (h0, (h1, (h2, (h3, (h4, (h5, (h6, (h7, ()))))))))))
         (brn (@I.eqb .i64 (@I.rem .i64 a (I.of .i64 53)) (I.of .i64 7))
          (some (((b, (y0.1.1.2.2.1, ((@Arr.sel (I .u64) (I.of .u64 0) 6 ((I.of .u64 1), ((I.of .u64 2), ((I.of .u64 3), ((I.of .u64 4), ((I.of .u64 9), ((I.of .u64 18446744073709551615), ())))))) (@I.nat .i64 (@I.rem .i64 a (I.of .i64 6)))), (((@I.mul .u64 (I.conv (k := .i64) .u64 (@I.rem .i64 (@I.quo .i64 a (I.of .i64 6)) (I.of .i64 1000))) (I.of .u64 1000003)), ((I.of .u64 0), ((I.of .u64 0), ((I.of .u64 0), ())))), ((I.conv (k := .i64) .u64 (@I.rem .i64 a (I.of .i64 300))), (y4.1.1, (((@I.mul .u64 (I.conv (k := .i64) .u64 (@I.rem .i64 a (I.of .i64 7))) (I.of .u64 100000)), ((I.of .u64 0), ((I.of .u64 0), ((I.of .u64 0), ())))), ((@I.mul .u64 (I.conv (k := .i64) .u64 (@I.rem .i64 (@I.quo .i64 a (I.of .i64 11)) (I.of .i64 50))) (I.of .u64 3000)), (y5.1.1, ()))))))))), ()), (h0, (h1, (h2, (h3, (h4, (h5, (h6, (h7, ()))))))))))
          (some (((b, (y0.1.1.2.2.1, ((@Arr.sel (I .u64) (I.of .u64 0) 6 ((I.of .u64 1), ((I.of .u64 2), ((I.of .u64 3), ((I.of .u64 4), ((I.of .u64 9), ((I.of .u64 18446744073709551615), ())))))) (@I.nat .i64 (@I.rem .i64 a (I.of .i64 6)))), (((@I.mul .u64 (I.conv (k := .i64) .u64 (@I.rem .i64 (@I.quo .i64 a (I.of .i64 6)) (I.of .i64 1000))) (I.of .u64 1000003)), ((I.of .u64 0), ((I.of .u64 0), ((I.of .u64 0), ())))), ((@I.add .u64 (I.of .u64 40000) (@I.mul .u64 (I.conv (k := .i64) .u64 (@I.rem .i64 (@I.quo .i64 a (I.of .i64 6000)) (I.of .i64 64))) (I.of .u64 5000))), (y4.1.1, (((@I.mul .u64 (I.conv (k := .i64) .u64 (@I.rem .i64 a (I.of .i64 7))) (I.of .u64 100000)), ((I.of .u64 0), ((I.of .u64 0), ((I.of .u64 0), ())))), ((@I.mul .u64 (I.conv (k := .i64) .u64 (@I.rem .i64 (@I.quo .i64 a (I.of .i64 11)) (I.of .i64 50))) (I.of .u64 3000)), (y5.1.1, ()))))))))), ()), (h0, (h1, (h2, (h3, (h4, (h5, (h6, (h7, ())))))))))))))))))
   (none))
  (none)
noncomputable def pontagelaw0_NextStep (K : Nat) (x : (⟨[.pl (.int .i64), .ptr 0 [], .pl .bool], H_pontageref28_Machine⟩ : Tm).D) : Option (⟨[.pl Y_api_Step], H_pontageref28_Machine⟩ : Tm).D :=
 let a : (I .i64) := x.1.1
 let b : Bool := x.1.2.1
 let h0 : O_pontageref28_Machine := x.2.1
 let h1 : O_pontageref11_Ledger := x.2.2.1
 let h2 : O_pontageref25_Escrow := x.2.2.2.1
 let h3 : (List S_api_Message) := x.2.2.2.2.1
 let h4 : (List S_api_Account) := x.2.2.2.2.2.1
 let h5 : (List S_A32_intu8) := x.2.2.2.2.2.2.1
 let h6 : (List (I .u64)) := x.2.2.2.2.2.2.2.1
 let h7 : (List S_api_Payment) := x.2.2.2.2.2.2.2.2.1
 optF (none) (pontagelaw0_Mod K ((a, ((I.of .i64 4611686018427387904), ())), ())) fun y0 =>
 jn (fun (x1 : ((Bool × ((I .u64) × ((I .i64) × ((I .i64) × (Bool × Unit))))) × (O_pontageref28_Machine × (O_pontageref11_Ledger × ((List S_api_Account) × ((List S_api_Message) × (O_pontageref25_Escrow × ((List S_A32_intu8) × ((List (I .u64)) × ((List S_api_Payment) × (S_api_Step × Unit))))))))))) =>
   brn x1.1.2.2.2.2.1
    (optF (none) (pontagelaw0_deposit K ((x1.1.2.2.1, (x1.1.2.1, (x1.1.1, ()))), ())) fun y2 =>
    some ((y2.1.1, ()), (x1.2.1, (x1.2.2.1, (x1.2.2.2.2.2.1, (x1.2.2.2.2.1, (x1.2.2.2.1, (x1.2.2.2.2.2.2.1, (x1.2.2.2.2.2.2.2.1, (x1.2.2.2.2.2.2.2.2.1, ()))))))))))
    (jn (fun (x2 : (((I .u64) × ((I .i64) × ((I .i64) × (Bool × Unit)))) × (O_pontageref28_Machine × (O_pontageref11_Ledger × ((List S_api_Account) × ((List S_api_Message) × (O_pontageref25_Escrow × ((List S_A32_intu8) × ((List (I .u64)) × ((List S_api_Payment) × (S_api_Step × Unit))))))))))) =>
      brn x2.1.2.2.2.1
       (optF (none) (pontagelaw0_report K ((x2.1.2.1, ()), (x2.2.1, (x2.2.2.1, (x2.2.2.2.2.2.1, (x2.2.2.2.2.1, (x2.2.2.2.1, (x2.2.2.2.2.2.2.1, (x2.2.2.2.2.2.2.2.1, (x2.2.2.2.2.2.2.2.2.1, ())))))))))) fun y3 =>
       some ((((I.of .i64 2), (((I.of .u64 0), ((I.of .u64 0), ((I.of .u64 0), (Z_U, ((I.of .u64 0), (Z_U, (Z_U, ((I.of .u64 0), ([], ()))))))))), (y3.1.1, ((I.of .u64 0), ((I.of .i64 0), (Z_U, ((I.of .u64 0), (((I.of .u64 0), ((I.of .u64 0), ((I.of .u64 0), (Z_U, ([], ()))))), ())))))))), ()), y3.2))
       (brn (@I.eqb .i64 x2.1.2.2.1 (I.of .i64 10))
        (brn (@I.eqb .i64 (@I.rem .i64 x2.1.2.1 (I.of .i64 5)) (I.of .i64 0))
         (some ((((I.of .i64 3), (((I.of .u64 0), ((I.of .u64 0), ((I.of .u64 0), (Z_U, ((I.of .u64 0), (Z_U, (Z_U, ((I.of .u64 0), ([], ()))))))))), (Z_S_api_Message, ((I.conv (k := .i64) .u64 (@I.rem .i64 x2.1.2.1 (I.of .i64 3000))), ((I.of .i64 0), (Z_U, ((I.of .u64 0), (((I.of .u64 0), ((I.of .u64 0), ((I.of .u64 0), (Z_U, ([], ()))))), ())))))))), ()), (x2.2.1, (x2.2.2.1, (x2.2.2.2.2.2.1, (x2.2.2.2.2.1, (x2.2.2.2.1, (x2.2.2.2.2.2.2.1, (x2.2.2.2.2.2.2.2.1, (x2.2.2.2.2.2.2.2.2.1, ()))))))))))
         (some ((((I.of .i64 3), (((I.of .u64 0), ((I.of .u64 0), ((I.of .u64 0), (Z_U, ((I.of .u64 0), (Z_U, (Z_U, ((I.of .u64 0), ([], ()))))))))), (Z_S_api_Message, ((I.conv (k := .i64) .u64 (@I.add .i64 (I.of .i64 1) (@I.rem .i64 x2.1.2.1 (I.of .i64 30)))), ((I.of .i64 0), (Z_U, ((I.of .u64 0), (((I.of .u64 0), ((I.of .u64 0), ((I.of .u64 0), (Z_U, ([], ()))))), ())))))))), ()), (x2.2.1, (x2.2.2.1, (x2.2.2.2.2.2.1, (x2.2.2.2.2.1, (x2.2.2.2.1, (x2.2.2.2.2.2.2.1, (x2.2.2.2.2.2.2.2.1, (x2.2.2.2.2.2.2.2.2.1, ())))))))))))
        (brn (@I.eqb .i64 x2.1.2.2.1 (I.of .i64 11))
         (optF (none) (pontagelaw0_param K ((x2.1.2.1, ()), ())) fun y3 =>
         some ((y3.1.1, ()), (x2.2.1, (x2.2.2.1, (x2.2.2.2.2.2.1, (x2.2.2.2.2.1, (x2.2.2.2.1, (x2.2.2.2.2.2.2.1, (x2.2.2.2.2.2.2.2.1, (x2.2.2.2.2.2.2.2.2.1, ()))))))))))
         (brn (@I.eqb .i64 x2.1.2.2.1 (I.of .i64 12))
          (brn (@I.eqb .i64 (@I.rem .i64 x2.1.2.1 (I.of .i64 13)) (I.of .i64 0))
           (some ((((I.of .i64 5), (((I.of .u64 0), ((I.of .u64 0), ((I.of .u64 0), (Z_U, ((I.of .u64 0), (Z_U, (Z_U, ((I.of .u64 0), ([], ()))))))))), (Z_S_api_Message, ((I.of .u64 0), ((I.of .i64 0), (Z_U, ((I.conv (k := .i64) .u64 (@I.rem .i64 x2.1.2.1 (I.of .i64 9))), (((I.of .u64 0), ((I.of .u64 0), ((I.of .u64 0), (Z_U, ([], ()))))), ())))))))), ()), (x2.2.1, (x2.2.2.1, (x2.2.2.2.2.2.1, (x2.2.2.2.2.1, (x2.2.2.2.1, (x2.2.2.2.2.2.2.1, (x2.2.2.2.2.2.2.2.1, (x2.2.2.2.2.2.2.2.2.1, ()))))))))))
           (some ((((I.of .i64 5), (((I.of .u64 0), ((I.of .u64 0), ((I.of .u64 0), (Z_U, ((I.of .u64 0), (Z_U, (Z_U, ((I.of .u64 0), ([], ()))))))))), (Z_S_api_Message, ((I.of .u64 0), ((I.of .i64 0), (Z_U, ((I.conv (k := .i64) .u64 (@I.add .i64 (I.of .i64 5) (@I.rem .i64 x2.1.2.1 (I.of .i64 3)))), (((I.of .u64 0), ((I.of .u64 0), ((I.of .u64 0), (Z_U, ([], ()))))), ())))))))), ()), (x2.2.1, (x2.2.2.1, (x2.2.2.2.2.2.1, (x2.2.2.2.2.1, (x2.2.2.2.1, (x2.2.2.2.2.2.2.1, (x2.2.2.2.2.2.2.2.1, (x2.2.2.2.2.2.2.2.2.1, ())))))))))))
          (jn (fun (x3 : (((I .u64) × ((I .i64) × (Bool × Unit))) × (O_pontageref28_Machine × (O_pontageref11_Ledger × ((List S_api_Account) × ((List S_api_Message) × (O_pontageref25_Escrow × ((List S_A32_intu8) × ((List (I .u64)) × ((List S_api_Payment) × (S_api_Step × Unit))))))))))) =>
            brn x3.1.2.2.1
             (optF (none) (pontagelaw0_claim K ((x3.1.2.1, ()), (x3.2.1, (x3.2.2.1, (x3.2.2.2.2.2.1, (x3.2.2.2.2.1, (x3.2.2.2.1, (x3.2.2.2.2.2.2.1, (x3.2.2.2.2.2.2.2.1, (x3.2.2.2.2.2.2.2.2.1, ())))))))))) fun y4 =>
             some ((((I.of .i64 7), (((I.of .u64 0), ((I.of .u64 0), ((I.of .u64 0), (Z_U, ((I.of .u64 0), (Z_U, (Z_U, ((I.of .u64 0), ([], ()))))))))), (Z_S_api_Message, ((I.of .u64 0), ((I.of .i64 0), (Z_U, ((I.of .u64 0), (y4.1.1, ())))))))), ()), y4.2))
             (optF (none) (pontagelaw0_transaction K ((x3.1.2.1, (x3.1.1, ())), (x3.2.1, (x3.2.2.1, (x3.2.2.2.2.2.1, (x3.2.2.2.2.1, (x3.2.2.2.1, (x3.2.2.2.2.2.2.1, (x3.2.2.2.2.2.2.2.1, (x3.2.2.2.2.2.2.2.2.1, ())))))))))) fun y4 =>
             some ((((I.of .i64 1), (y4.1.1, (Z_S_api_Message, ((I.of .u64 0), ((I.of .i64 0), (Z_U, ((I.of .u64 0), (((I.of .u64 0), ((I.of .u64 0), ((I.of .u64 0), (Z_U, ([], ()))))), ())))))))), ()), y4.2))) fun j3 =>
          brn (@I.eqb .i64 x2.1.2.2.1 (I.of .i64 13))
           (j3 ((x2.1.1, (x2.1.2.1, ((@I.eqb .i64 x2.1.2.2.1 (I.of .i64 13)), ()))), (x2.2.1, (x2.2.2.1, (x2.2.2.2.1, (x2.2.2.2.2.1, (x2.2.2.2.2.2.1, (x2.2.2.2.2.2.2.1, (x2.2.2.2.2.2.2.2.1, (x2.2.2.2.2.2.2.2.2.1, (x2.2.2.2.2.2.2.2.2.2.1, ())))))))))))
           (j3 ((x2.1.1, (x2.1.2.1, ((@I.eqb .i64 x2.1.2.2.1 (I.of .i64 14)), ()))), (x2.2.1, (x2.2.2.1, (x2.2.2.2.1, (x2.2.2.2.2.1, (x2.2.2.2.2.2.1, (x2.2.2.2.2.2.2.1, (x2.2.2.2.2.2.2.2.1, (x2.2.2.2.2.2.2.2.2.1, (x2.2.2.2.2.2.2.2.2.2.1, ())))))))))))))))) fun j2 =>
    brn (@I.eqb .i64 x1.1.2.2.2.1 (I.of .i64 8))
     (j2 ((x1.1.2.1, (x1.1.2.2.1, (x1.1.2.2.2.1, ((@I.eqb .i64 x1.1.2.2.2.1 (I.of .i64 8)), ())))), (x1.2.1, (x1.2.2.1, (x1.2.2.2.1, (x1.2.2.2.2.1, (x1.2.2.2.2.2.1, (x1.2.2.2.2.2.2.1, (x1.2.2.2.2.2.2.2.1, (x1.2.2.2.2.2.2.2.2.1, (x1.2.2.2.2.2.2.2.2.2.1, ())))))))))))
     (j2 ((x1.1.2.1, (x1.1.2.2.1, (x1.1.2.2.2.1, ((@I.eqb .i64 x1.1.2.2.2.1 (I.of .i64 9)), ())))), (x1.2.1, (x1.2.2.1, (x1.2.2.2.1, (x1.2.2.2.2.1, (x1.2.2.2.2.2.1, (x1.2.2.2.2.2.2.1, (x1.2.2.2.2.2.2.2.1, (x1.2.2.2.2.2.2.2.2.1, (x1.2.2.2.2.2.2.2.2.2.1, ()))))))))))))) fun j1 =>
 brn (@I.eqb .i64 (@I.rem .i64 y0.1.1 (I.of .i64 16)) (I.of .i64 0))
  (j1 ((b, ((I.conv (k := .i64) .u64 (@I.add .i64 (I.of .i64 1) (@I.rem .i64 (@I.quo .i64 y0.1.1 (I.of .i64 16)) (I.of .i64 4)))), ((@I.quo .i64 y0.1.1 (I.of .i64 64)), ((@I.rem .i64 y0.1.1 (I.of .i64 16)), ((@I.eqb .i64 (@I.rem .i64 y0.1.1 (I.of .i64 16)) (I.of .i64 0)), ()))))), (h0, (h1, (h4, (h3, (h2, (h5, (h6, (h7, (((I.of .i64 0), (((I.of .u64 0), ((I.of .u64 0), ((I.of .u64 0), (Z_U, ((I.of .u64 0), (Z_U, (Z_U, ((I.of .u64 0), ([], ()))))))))), (Z_S_api_Message, ((I.of .u64 0), ((I.of .i64 0), (Z_U, ((I.of .u64 0), (((I.of .u64 0), ((I.of .u64 0), ((I.of .u64 0), (Z_U, ([], ()))))), ())))))))), ())))))))))))
  (j1 ((b, ((I.conv (k := .i64) .u64 (@I.add .i64 (I.of .i64 1) (@I.rem .i64 (@I.quo .i64 y0.1.1 (I.of .i64 16)) (I.of .i64 4)))), ((@I.quo .i64 y0.1.1 (I.of .i64 64)), ((@I.rem .i64 y0.1.1 (I.of .i64 16)), ((@I.eqb .i64 (@I.rem .i64 y0.1.1 (I.of .i64 16)) (I.of .i64 1)), ()))))), (h0, (h1, (h4, (h3, (h2, (h5, (h6, (h7, (((I.of .i64 0), (((I.of .u64 0), ((I.of .u64 0), ((I.of .u64 0), (Z_U, ((I.of .u64 0), (Z_U, (Z_U, ((I.of .u64 0), ([], ()))))))))), (Z_S_api_Message, ((I.of .u64 0), ((I.of .i64 0), (Z_U, ((I.of .u64 0), (((I.of .u64 0), ((I.of .u64 0), ((I.of .u64 0), (Z_U, ([], ()))))), ())))))))), ())))))))))))
noncomputable def pontagelaw0_Simulate (K : Nat) (x : (⟨[.pl (.sl (.int .i64)), .pl .bool], []⟩ : Tm).D) : Option (⟨[.ptr 0 [], .whole 8, .whole 9], [.box Y_pontageref28_Machine (.pair (.pl (.int .u64)) (.pair (.pl Y_api_Params) (.pair (.pl Y_api_Block) (.pair (.pl (.int .u64)) (.pair (.pl Y_api_Pricer) (.pair (.ptr 1 []) (.pair (.whole 3) (.pair (.ptr 2 []) (.pl .nil))))))))), .box Y_pontageref11_Ledger (.pair (.whole 4) (.pl (.cons (.arr 4 u256) .nil))), .box Y_pontageref25_Escrow (.pair (.pl u256) (.pair (.whole 5) (.pair (.whole 6) (.pair (.whole 7) (.pl .nil))))), .row Y_api_Message, .row Y_api_Account, .row (.arr 32 (.int .u8)), .row (.int .u64), .row Y_api_Payment, .row Y_api_Step, .row Y_api_Receipt]⟩ : Tm).D :=
 let a : (List (I .i64)) := x.1.1
 let b : Bool := x.1.2.1
 optF (none) (pontageref28_New K ((), ())) fun y0 =>
 optF (none) (pontagelaw0_SetupSteps K ((), ())) fun y1 =>
 iter (none) (fun (x2 : (((List (I .i64)) × (Bool × ((I .i64) × Unit))) × (O_pontageref28_Machine × (O_pontageref11_Ledger × ((List S_api_Account) × ((List S_api_Message) × (O_pontageref25_Escrow × ((List S_A32_intu8) × ((List (I .u64)) × ((List S_api_Payment) × ((List S_api_Step) × ((List S_api_Receipt) × Unit)))))))))))) =>
   brn (@I.ltb .i64 x2.1.2.2.1 (I.ofNat .i64 (@lenL S_api_Step x2.2.2.2.2.2.2.2.2.2.1)))
    (brn (@inB .i64 x2.1.2.2.1 (@lenL S_api_Step x2.2.2.2.2.2.2.2.2.2.1))
     (optF (.done (none)) (pontageref28_Machine_Execute K (((@rdL S_api_Step ((I.of .i64 0), (((I.of .u64 0), ((I.of .u64 0), ((I.of .u64 0), (Z_U, ((I.of .u64 0), (Z_U, (Z_U, ((I.of .u64 0), ([], ()))))))))), (Z_S_api_Message, ((I.of .u64 0), ((I.of .i64 0), (Z_U, ((I.of .u64 0), (((I.of .u64 0), ((I.of .u64 0), ((I.of .u64 0), (Z_U, ([], ()))))), ())))))))) x2.2.2.2.2.2.2.2.2.2.1 (@I.nat .i64 x2.1.2.2.1)), ()), (x2.2.1, (x2.2.2.1, (x2.2.2.2.2.2.1, (x2.2.2.2.2.1, (x2.2.2.2.1, (x2.2.2.2.2.2.2.1, (x2.2.2.2.2.2.2.2.1, (x2.2.2.2.2.2.2.2.2.1, ())))))))))) fun y3 =>
     brn (fitsLen (@lenL S_api_Receipt (@appL S_api_Receipt x2.2.2.2.2.2.2.2.2.2.2.1 (y3.1.1 :: []))))
      (.again ((x2.1.1, (x2.1.2.1, ((@I.add .i64 x2.1.2.2.1 (I.of .i64 1)), ()))), (y3.2.1, (y3.2.2.1, (y3.2.2.2.2.2.1, (y3.2.2.2.2.1, (y3.2.2.2.1, (y3.2.2.2.2.2.2.1, (y3.2.2.2.2.2.2.2.1, (y3.2.2.2.2.2.2.2.2.1, (x2.2.2.2.2.2.2.2.2.2.1, ((@appL S_api_Receipt x2.2.2.2.2.2.2.2.2.2.2.1 (y3.1.1 :: [])), ()))))))))))))
      (.done (none)))
     (.done (none)))
    (.done (iter (none) (fun x3 =>
      brn (@I.ltb .i64 x3.1.2.2.1 (I.ofNat .i64 (@lenL (I .i64) x3.1.1)))
       (brn (@inB .i64 x3.1.2.2.1 (@lenL (I .i64) x3.1.1))
        (optF (.done (none)) (pontagelaw0_NextStep K (((@rdL (I .i64) (I.of .i64 0) x3.1.1 (@I.nat .i64 x3.1.2.2.1)), (x3.1.2.1, ())), (x3.2.1, (x3.2.2.1, (x3.2.2.2.2.2.1, (x3.2.2.2.2.1, (x3.2.2.2.1, (x3.2.2.2.2.2.2.1, (x3.2.2.2.2.2.2.2.1, (x3.2.2.2.2.2.2.2.2.1, ())))))))))) fun y4 =>
        brn (fitsLen (@lenL S_api_Step (@appL S_api_Step x3.2.2.2.2.2.2.2.2.2.1 (y4.1.1 :: []))))
         (optF (.done (none)) (pontageref28_Machine_Execute K ((y4.1.1, ()), y4.2)) fun y5 =>
         brn (fitsLen (@lenL S_api_Receipt (@appL S_api_Receipt x3.2.2.2.2.2.2.2.2.2.2.1 (y5.1.1 :: []))))
          (.again ((x3.1.1, (x3.1.2.1, ((@I.add .i64 x3.1.2.2.1 (I.of .i64 1)), ()))), (y5.2.1, (y5.2.2.1, (y5.2.2.2.2.2.1, (y5.2.2.2.2.1, (y5.2.2.2.1, (y5.2.2.2.2.2.2.1, (y5.2.2.2.2.2.2.2.1, (y5.2.2.2.2.2.2.2.2.1, ((@appL S_api_Step x3.2.2.2.2.2.2.2.2.2.1 (y4.1.1 :: [])), ((@appL S_api_Receipt x3.2.2.2.2.2.2.2.2.2.2.1 (y5.1.1 :: [])), ()))))))))))))
          (.done (none)))
         (.done (none)))
        (.done (none)))
       (.done (some ((), (x3.2.1, (x3.2.2.1, (x3.2.2.2.2.2.1, (x3.2.2.2.2.1, (x3.2.2.2.1, (x3.2.2.2.2.2.2.1, (x3.2.2.2.2.2.2.2.1, (x3.2.2.2.2.2.2.2.2.1, (x3.2.2.2.2.2.2.2.2.2.1, (x3.2.2.2.2.2.2.2.2.2.2.1, ()))))))))))))))
    K ((x2.1.1, (x2.1.2.1, ((I.of .i64 0), ()))), (x2.2.1, (x2.2.2.1, (x2.2.2.2.1, (x2.2.2.2.2.1, (x2.2.2.2.2.2.1, (x2.2.2.2.2.2.2.1, (x2.2.2.2.2.2.2.2.1, (x2.2.2.2.2.2.2.2.2.1, (x2.2.2.2.2.2.2.2.2.2.1, (x2.2.2.2.2.2.2.2.2.2.2.1, ()))))))))))))))
 K ((a, (b, ((I.of .i64 0), ()))), (y0.2.1, (y0.2.2.1, (y0.2.2.2.2.2.1, (y0.2.2.2.2.1, (y0.2.2.2.1, (y0.2.2.2.2.2.2.1, (y0.2.2.2.2.2.2.2.1, (y0.2.2.2.2.2.2.2.2.1, (y1.2.1, ([], ())))))))))))
noncomputable def audit_Total (K : Nat) (x : (⟨[.pl (.sl Y_api_Step), .pl (.sl Y_api_Receipt)], []⟩ : Tm).D) : Option (⟨[.pl Y_api_Totals, .pl (.int .i64)], []⟩ : Tm).D :=
 let a : (List S_api_Step) := x.1.1
 let b : (List S_api_Receipt) := x.1.2.1
 brn (@I.neb .i64 (I.ofNat .i64 (@lenL S_api_Step a)) (I.ofNat .i64 (@lenL S_api_Receipt b)))
  (some ((Z_S_api_Totals, ((I.of .i64 2), ())), ()))
  (iter (none) (fun x0 =>
    brn (@I.ltb .i64 x0.1.2.2.2.2.1 x0.1.2.2.2.1)
     (brn (@inB .i64 x0.1.2.2.2.2.1 (@lenL S_api_Receipt x0.1.2.2.1))
      (brn (@I.eqb .i64 (@rdL S_api_Receipt ((I.of .i64 0), ((I.of .i64 0), (Z_S_api_Charge, (Z_U, (Z_U, ((I.of .u64 0), (Z_U, (Z_U, ([], ()))))))))) x0.1.2.2.1 (@I.nat .i64 x0.1.2.2.2.2.1)).2.1 (I.of .i64 0))
       (brn (@inB .i64 x0.1.2.2.2.2.1 (@lenL S_api_Step x0.1.1))
        (brn (@I.neb .i64 (@rdL S_api_Receipt ((I.of .i64 0), ((I.of .i64 0), (Z_S_api_Charge, (Z_U, (Z_U, ((I.of .u64 0), (Z_U, (Z_U, ([], ()))))))))) x0.1.2.2.1 (@I.nat .i64 x0.1.2.2.2.2.1)).1 (@rdL S_api_Step ((I.of .i64 0), (((I.of .u64 0), ((I.of .u64 0), ((I.of .u64 0), (Z_U, ((I.of .u64 0), (Z_U, (Z_U, ((I.of .u64 0), ([], ()))))))))), (Z_S_api_Message, ((I.of .u64 0), ((I.of .i64 0), (Z_U, ((I.of .u64 0), (((I.of .u64 0), ((I.of .u64 0), ((I.of .u64 0), (Z_U, ([], ()))))), ())))))))) x0.1.1 (@I.nat .i64 x0.1.2.2.2.2.1)).1)
         (.done (some ((Z_S_api_Totals, ((I.of .i64 2), ())), ())))
         (.again ((x0.1.1, (x0.1.2.1, (x0.1.2.2.1, (x0.1.2.2.2.1, ((@I.add .i64 x0.1.2.2.2.2.1 (I.of .i64 1)), ()))))), (x0.2.1, ()))))
        (.done (none)))
       (.again ((x0.1.1, (x0.1.2.1, (x0.1.2.2.1, (x0.1.2.2.2.1, ((@I.add .i64 x0.1.2.2.2.2.1 (I.of .i64 1)), ()))))), (x0.2.1, ()))))
      (.done (none)))
     (.done (iter (none) (fun x1 =>
       brn (@I.ltb .i64 x1.1.2.2.2.1 x1.1.2.2.1)
        (brn (@inB .i64 x1.1.2.2.2.1 (@lenL S_api_Receipt x1.1.2.1))
         (brn (@I.eqb .i64 (@rdL S_api_Receipt ((I.of .i64 0), ((I.of .i64 0), (Z_S_api_Charge, (Z_U, (Z_U, ((I.of .u64 0), (Z_U, (Z_U, ([], ()))))))))) x1.1.2.1 (@I.nat .i64 x1.1.2.2.2.1)).2.1 (I.of .i64 0))
          (brn (@inB .i64 x1.1.2.2.2.1 (@lenL S_api_Step x1.1.1))
           (iter (.done (none)) (fun (x2 : (((List S_api_Message) × ((I .i64) × ((I .i64) × ((List S_api_Step) × ((List S_api_Receipt) × ((I .i64) × ((I .i64) × Unit))))))) × ((Bool × Unit) × (S_api_Totals × (S_api_Step × (S_api_Receipt × (S_api_Totals × Unit))))))) =>
             brn (@I.ltb .i64 x2.1.2.2.1 x2.1.2.1)
              (brn (@inB .i64 x2.1.2.2.1 (@lenL S_api_Message x2.1.1))
               (optF (.done (.done (none))) (uint256_Add ((x2.2.2.1.2.1, ((@rdL S_api_Message Z_S_api_Message x2.1.1 (@I.nat .i64 x2.1.2.2.1)).2.2.1, ())), ())) fun y3 =>
               brn x2.2.1.1
                (.again ((x2.1.1, (x2.1.2.1, ((@I.add .i64 x2.1.2.2.1 (I.of .i64 1)), (x2.1.2.2.2.1, (x2.1.2.2.2.2.1, (x2.1.2.2.2.2.2.1, (x2.1.2.2.2.2.2.2.1, ()))))))), ((true, x2.2.1.2), ((x2.2.2.1.1, (y3.1.1, x2.2.2.1.2.2)), (x2.2.2.2.1, (x2.2.2.2.2.1, (x2.2.2.2.2.2.1, ())))))))
                (.again ((x2.1.1, (x2.1.2.1, ((@I.add .i64 x2.1.2.2.1 (I.of .i64 1)), (x2.1.2.2.2.1, (x2.1.2.2.2.2.1, (x2.1.2.2.2.2.2.1, (x2.1.2.2.2.2.2.2.1, ()))))))), (((@I.neb .i64 y3.1.2.1 (I.of .i64 0)), x2.2.1.2), ((x2.2.2.1.1, (y3.1.1, x2.2.2.1.2.2)), (x2.2.2.2.1, (x2.2.2.2.2.1, (x2.2.2.2.2.2.1, ()))))))))
               (.done (.done (none))))
              (.done (brn (@I.eqb .i64 x2.2.2.2.1.1 (I.of .i64 1))
               (optF (.done (none)) (uint256_Add ((x2.2.2.1.2.2.2.1, (x2.2.2.2.2.1.2.2.1.2.2.2.2.2.2.1, ())), ())) fun y3 =>
               brn x2.2.1.1
                (optF (.done (none)) (uint256_Add ((x2.2.2.1.2.2.2.2.1, (x2.2.2.2.2.1.2.2.1.2.2.2.2.2.2.2.1, ())), ())) fun y4 =>
                optF (.done (none)) (uint256_Add ((x2.2.2.1.2.2.2.2.2.1, (x2.2.2.2.2.1.2.2.1.2.2.2.2.2.2.2.2.1, ())), ())) fun y5 =>
                optF (.done (none)) (uint256_Add ((x2.2.2.1.2.2.2.2.2.2.1, (x2.2.2.2.2.1.2.2.1.2.2.2.2.2.2.2.2.2.1, ())), ())) fun y6 =>
                .again ((x2.1.2.2.2.1, (x2.1.2.2.2.2.1, (x2.1.2.2.2.2.2.1, ((@I.add .i64 x2.1.2.2.2.2.2.2.1 (I.of .i64 1)), ())))), (x2.2.2.2.2.2.1, ((x2.2.2.1.1, (x2.2.2.1.2.1, (x2.2.2.1.2.2.1, (y3.1.1, (y4.1.1, (y5.1.1, (y6.1.1, x2.2.2.1.2.2.2.2.2.2.2))))))), ((true, x2.2.1.2), ())))))
                (optF (.done (none)) (uint256_Add ((x2.2.2.1.2.2.2.2.1, (x2.2.2.2.2.1.2.2.1.2.2.2.2.2.2.2.1, ())), ())) fun y4 =>
                brn (@I.neb .i64 y3.1.2.1 (I.of .i64 0))
                 (optF (.done (none)) (uint256_Add ((x2.2.2.1.2.2.2.2.2.1, (x2.2.2.2.2.1.2.2.1.2.2.2.2.2.2.2.2.1, ())), ())) fun y5 =>
                 optF (.done (none)) (uint256_Add ((x2.2.2.1.2.2.2.2.2.2.1, (x2.2.2.2.2.1.2.2.1.2.2.2.2.2.2.2.2.2.1, ())), ())) fun y6 =>
                 .again ((x2.1.2.2.2.1, (x2.1.2.2.2.2.1, (x2.1.2.2.2.2.2.1, ((@I.add .i64 x2.1.2.2.2.2.2.2.1 (I.of .i64 1)), ())))), (x2.2.2.2.2.2.1, ((x2.2.2.1.1, (x2.2.2.1.2.1, (x2.2.2.1.2.2.1, (y3.1.1, (y4.1.1, (y5.1.1, (y6.1.1, x2.2.2.1.2.2.2.2.2.2.2))))))), ((true, x2.2.1.2), ())))))
                 (optF (.done (none)) (uint256_Add ((x2.2.2.1.2.2.2.2.2.1, (x2.2.2.2.2.1.2.2.1.2.2.2.2.2.2.2.2.1, ())), ())) fun y5 =>
                 brn (@I.neb .i64 y4.1.2.1 (I.of .i64 0))
                  (optF (.done (none)) (uint256_Add ((x2.2.2.1.2.2.2.2.2.2.1, (x2.2.2.2.2.1.2.2.1.2.2.2.2.2.2.2.2.2.1, ())), ())) fun y6 =>
                  .again ((x2.1.2.2.2.1, (x2.1.2.2.2.2.1, (x2.1.2.2.2.2.2.1, ((@I.add .i64 x2.1.2.2.2.2.2.2.1 (I.of .i64 1)), ())))), (x2.2.2.2.2.2.1, ((x2.2.2.1.1, (x2.2.2.1.2.1, (x2.2.2.1.2.2.1, (y3.1.1, (y4.1.1, (y5.1.1, (y6.1.1, x2.2.2.1.2.2.2.2.2.2.2))))))), ((true, x2.2.1.2), ())))))
                  (optF (.done (none)) (uint256_Add ((x2.2.2.1.2.2.2.2.2.2.1, (x2.2.2.2.2.1.2.2.1.2.2.2.2.2.2.2.2.2.1, ())), ())) fun y6 =>
                  brn (@I.neb .i64 y5.1.2.1 (I.of .i64 0))
                   (.again ((x2.1.2.2.2.1, (x2.1.2.2.2.2.1, (x2.1.2.2.2.2.2.1, ((@I.add .i64 x2.1.2.2.2.2.2.2.1 (I.of .i64 1)), ())))), (x2.2.2.2.2.2.1, ((x2.2.2.1.1, (x2.2.2.1.2.1, (x2.2.2.1.2.2.1, (y3.1.1, (y4.1.1, (y5.1.1, (y6.1.1, x2.2.2.1.2.2.2.2.2.2.2))))))), ((true, x2.2.1.2), ())))))
                   (.again ((x2.1.2.2.2.1, (x2.1.2.2.2.2.1, (x2.1.2.2.2.2.2.1, ((@I.add .i64 x2.1.2.2.2.2.2.2.1 (I.of .i64 1)), ())))), (x2.2.2.2.2.2.1, ((x2.2.2.1.1, (x2.2.2.1.2.1, (x2.2.2.1.2.2.1, (y3.1.1, (y4.1.1, (y5.1.1, (y6.1.1, x2.2.2.1.2.2.2.2.2.2.2))))))), (((@I.neb .i64 y6.1.2.1 (I.of .i64 0)), x2.2.1.2), ())))))))))
               (brn (@I.eqb .i64 x2.2.2.2.1.1 (I.of .i64 2))
                (optF (.done (none)) (uint256_Add ((x2.2.2.1.2.2.2.2.2.2.2.1, (x2.2.2.2.2.1.2.2.2.2.2.2.2.1, ())), ())) fun y3 =>
                brn x2.2.1.1
                 (.again ((x2.1.2.2.2.1, (x2.1.2.2.2.2.1, (x2.1.2.2.2.2.2.1, ((@I.add .i64 x2.1.2.2.2.2.2.2.1 (I.of .i64 1)), ())))), (x2.2.2.2.2.2.1, ((x2.2.2.1.1, (x2.2.2.1.2.1, (x2.2.2.1.2.2.1, (x2.2.2.1.2.2.2.1, (x2.2.2.1.2.2.2.2.1, (x2.2.2.1.2.2.2.2.2.1, (x2.2.2.1.2.2.2.2.2.2.1, (y3.1.1, x2.2.2.1.2.2.2.2.2.2.2.2)))))))), ((true, x2.2.1.2), ())))))
                 (.again ((x2.1.2.2.2.1, (x2.1.2.2.2.2.1, (x2.1.2.2.2.2.2.1, ((@I.add .i64 x2.1.2.2.2.2.2.2.1 (I.of .i64 1)), ())))), (x2.2.2.2.2.2.1, ((x2.2.2.1.1, (x2.2.2.1.2.1, (x2.2.2.1.2.2.1, (x2.2.2.1.2.2.2.1, (x2.2.2.1.2.2.2.2.1, (x2.2.2.1.2.2.2.2.2.1, (x2.2.2.1.2.2.2.2.2.2.1, (y3.1.1, x2.2.2.1.2.2.2.2.2.2.2.2)))))))), (((@I.neb .i64 y3.1.2.1 (I.of .i64 0)), x2.2.1.2), ()))))))
                (brn (@I.eqb .i64 x2.2.2.2.1.1 (I.of .i64 6))
                 (optF (.done (none)) (uint256_Add ((x2.2.2.1.1, (x2.2.2.2.1.2.2.2.2.2.1, ())), ())) fun y3 =>
                 brn x2.2.1.1
                  (.again ((x2.1.2.2.2.1, (x2.1.2.2.2.2.1, (x2.1.2.2.2.2.2.1, ((@I.add .i64 x2.1.2.2.2.2.2.2.1 (I.of .i64 1)), ())))), (x2.2.2.2.2.2.1, ((y3.1.1, x2.2.2.1.2), ((true, x2.2.1.2), ())))))
                  (.again ((x2.1.2.2.2.1, (x2.1.2.2.2.2.1, (x2.1.2.2.2.2.2.1, ((@I.add .i64 x2.1.2.2.2.2.2.2.1 (I.of .i64 1)), ())))), (x2.2.2.2.2.2.1, ((y3.1.1, x2.2.2.1.2), (((@I.neb .i64 y3.1.2.1 (I.of .i64 0)), x2.2.1.2), ()))))))
                 (brn (@I.eqb .i64 x2.2.2.2.1.1 (I.of .i64 7))
                  (optF (.done (none)) (uint256_Add ((x2.2.2.1.2.2.1, (x2.2.2.2.1.2.2.2.2.2.2.2.1.2.2.2.1, ())), ())) fun y3 =>
                  brn x2.2.1.1
                   (.again ((x2.1.2.2.2.1, (x2.1.2.2.2.2.1, (x2.1.2.2.2.2.2.1, ((@I.add .i64 x2.1.2.2.2.2.2.2.1 (I.of .i64 1)), ())))), (x2.2.2.2.2.2.1, ((x2.2.2.1.1, (x2.2.2.1.2.1, (y3.1.1, x2.2.2.1.2.2.2))), ((true, x2.2.1.2), ())))))
                   (.again ((x2.1.2.2.2.1, (x2.1.2.2.2.2.1, (x2.1.2.2.2.2.2.1, ((@I.add .i64 x2.1.2.2.2.2.2.2.1 (I.of .i64 1)), ())))), (x2.2.2.2.2.2.1, ((x2.2.2.1.1, (x2.2.2.1.2.1, (y3.1.1, x2.2.2.1.2.2.2))), (((@I.neb .i64 y3.1.2.1 (I.of .i64 0)), x2.2.1.2), ()))))))
                  (.again ((x2.1.2.2.2.1, (x2.1.2.2.2.2.1, (x2.1.2.2.2.2.2.1, ((@I.add .i64 x2.1.2.2.2.2.2.2.1 (I.of .i64 1)), ())))), (x2.2.2.2.2.2.1, (x2.2.2.1, (x2.2.1, ())))))))))))
           K (((@rdL S_api_Receipt ((I.of .i64 0), ((I.of .i64 0), (Z_S_api_Charge, (Z_U, (Z_U, ((I.of .u64 0), (Z_U, (Z_U, ([], ()))))))))) x1.1.2.1 (@I.nat .i64 x1.1.2.2.2.1)).2.2.2.2.2.2.2.2.1, ((I.ofNat .i64 (@lenL S_api_Message (@rdL S_api_Receipt ((I.of .i64 0), ((I.of .i64 0), (Z_S_api_Charge, (Z_U, (Z_U, ((I.of .u64 0), (Z_U, (Z_U, ([], ()))))))))) x1.1.2.1 (@I.nat .i64 x1.1.2.2.2.1)).2.2.2.2.2.2.2.2.1)), ((I.of .i64 0), (x1.1.1, (x1.1.2.1, (x1.1.2.2.1, (x1.1.2.2.2.1, ()))))))), (x1.2.2.2.1, (x1.2.2.1, ((@rdL S_api_Step ((I.of .i64 0), (((I.of .u64 0), ((I.of .u64 0), ((I.of .u64 0), (Z_U, ((I.of .u64 0), (Z_U, (Z_U, ((I.of .u64 0), ([], ()))))))))), (Z_S_api_Message, ((I.of .u64 0), ((I.of .i64 0), (Z_U, ((I.of .u64 0), (((I.of .u64 0), ((I.of .u64 0), ((I.of .u64 0), (Z_U, ([], ()))))), ())))))))) x1.1.1 (@I.nat .i64 x1.1.2.2.2.1)), ((@rdL S_api_Receipt ((I.of .i64 0), ((I.of .i64 0), (Z_S_api_Charge, (Z_U, (Z_U, ((I.of .u64 0), (Z_U, (Z_U, ([], ()))))))))) x1.1.2.1 (@I.nat .i64 x1.1.2.2.2.1)), (x1.2.1, ())))))))
           (.done (none)))
          (.again ((x1.1.1, (x1.1.2.1, (x1.1.2.2.1, ((@I.add .i64 x1.1.2.2.2.1 (I.of .i64 1)), ())))), (x1.2.1, (x1.2.2.1, (x1.2.2.2.1, ()))))))
         (.done (none)))
        (.done (brn x1.2.2.2.1.1
         (some ((Z_S_api_Totals, ((I.of .i64 4), ())), ()))
         (some ((x1.2.2.1, ((I.of .i64 0), ())), ())))))
     K ((x0.1.1, (x0.1.2.1, ((I.ofNat .i64 (@lenL S_api_Receipt x0.1.2.1)), ((I.of .i64 0), ())))), (x0.2.1, (Z_S_api_Totals, ((false, ()), ())))))))
  K ((a, (b, (b, ((I.ofNat .i64 (@lenL S_api_Receipt b)), ((I.of .i64 0), ()))))), (Z_S_api_Totals, ())))
noncomputable def pontageref11_Ledger_Accounts (K : Nat) (x : (⟨[.bp Y_pontageref11_Ledger], []⟩ : Tm).D) : Option (⟨[.whole 0], [.row Y_api_Account]⟩ : Tm).D :=
 let a : S_pontageref11_Ledger := x.1.1
 iter (none) (fun (x0 : ((S_pontageref11_Ledger × ((I .i64) × Unit)) × ((List S_api_Account) × Unit))) =>
   brn (@I.ltb .i64 x0.1.2.1 (I.ofNat .i64 (@lenL S_api_Account x0.1.1.1)))
    (brn (@inB .i64 x0.1.2.1 (@lenL S_api_Account x0.1.1.1))
     (jn (fun (x1 : ((S_pontageref11_Ledger × ((I .i64) × Unit)) × ((List S_api_Account) × (S_api_Account × Unit)))) =>
       jn (fun (x2 : ((S_pontageref11_Ledger × ((I .i64) × ((I .i64) × Unit))) × ((List S_api_Account) × (S_api_Account × Unit)))) =>
         brn (@inB' .i64 x2.1.2.2.1 (@lenL S_api_Account x2.2.1))
          (brn (@eqV .i64 .i64 x2.1.2.2.1 x2.1.2.2.1)
           (brn (@inB' .i64 x2.1.2.2.1 (@lenL S_api_Account x2.2.1))
            (brn (fitsLen (@lenL S_api_Account (@appL S_api_Account (x2.2.2.1 :: []) (@subL S_api_Account x2.2.1 (@I.nat .i64 x2.1.2.2.1) ((@lenL S_api_Account x2.2.1) - (@I.nat .i64 x2.1.2.2.1))))))
             (brn (fitsLen (@lenL S_api_Account (@appL S_api_Account (@subL S_api_Account x2.2.1 0 (@I.nat .i64 x2.1.2.2.1)) (@appL S_api_Account (x2.2.2.1 :: []) (@subL S_api_Account x2.2.1 (@I.nat .i64 x2.1.2.2.1) ((@lenL S_api_Account x2.2.1) - (@I.nat .i64 x2.1.2.2.1)))))))
              (brn (emptyN (@lenL S_api_Account (@appL S_api_Account (x2.2.2.1 :: []) (@subL S_api_Account x2.2.1 (@I.nat .i64 x2.1.2.2.1) ((@lenL S_api_Account x2.2.1) - (@I.nat .i64 x2.1.2.2.1))))))
               (.done (none))
               (.again ((x2.1.1, ((@I.add .i64 x2.1.2.1 (I.of .i64 1)), ())), ((@appL S_api_Account (@subL S_api_Account x2.2.1 0 (@I.nat .i64 x2.1.2.2.1)) (@appL S_api_Account (x2.2.2.1 :: []) (@subL S_api_Account x2.2.1 (@I.nat .i64 x2.1.2.2.1) ((@lenL S_api_Account x2.2.1) - (@I.nat .i64 x2.1.2.2.1))))), ()))))
              (.done (none)))
             (.done (none)))
            (.done (none)))
           (.done (none)))
          (.done (none))) fun j2 =>
       iter (.done (none)) (fun x3 =>
         brn (@I.ltb .i64 (I.of .i64 0) x3.1.2.2.1)
          (brn (@inB .i64 (@I.sub .i64 x3.1.2.2.1 (I.of .i64 1)) (@lenL S_api_Account x3.2.1))
           (brn (@I.ltb .u64 x3.2.2.1.1 (@rdL S_api_Account Z_S_api_Account x3.2.1 (@I.nat .i64 (@I.sub .i64 x3.1.2.2.1 (I.of .i64 1)))).1)
            (.again ((x3.1.1, (x3.1.2.1, ((@I.sub .i64 x3.1.2.2.1 (I.of .i64 1)), ()))), (x3.2.1, (x3.2.2.1, ()))))
            (.done (j2 ((x3.1.1, (x3.1.2.1, (x3.1.2.2.1, ()))), (x3.2.1, (x3.2.2.1, ()))))))
           (.done (.done (none))))
          (.done (j2 ((x3.1.1, (x3.1.2.1, (x3.1.2.2.1, ()))), (x3.2.1, (x3.2.2.1, ()))))))
       K ((x1.1.1, (x1.1.2.1, ((I.ofNat .i64 (@lenL S_api_Account x1.2.1)), ()))), (x1.2.1, (x1.2.2.1, ())))) fun j1 =>
     optF (.done (none)) (pontageref1_IsZero K (((@rdL S_api_Account Z_S_api_Account x0.1.1.1 (@I.nat .i64 x0.1.2.1)).2.1, ()), ())) fun y2 =>
     brn y2.1.1
      (brn (@I.eqb .u64 (@rdL S_api_Account Z_S_api_Account x0.1.1.1 (@I.nat .i64 x0.1.2.1)).2.2.1 (I.of .u64 0))
       (.again ((x0.1.1, ((@I.add .i64 x0.1.2.1 (I.of .i64 1)), ())), (x0.2.1, ())))
       (j1 ((x0.1.1, (x0.1.2.1, ())), (x0.2.1, ((@rdL S_api_Account Z_S_api_Account x0.1.1.1 (@I.nat .i64 x0.1.2.1)), ())))))
      (j1 ((x0.1.1, (x0.1.2.1, ())), (x0.2.1, ((@rdL S_api_Account Z_S_api_Account x0.1.1.1 (@I.nat .i64 x0.1.2.1)), ())))))
     (.done (none)))
    (.done (some ((), (x0.2.1, ())))))
 K ((a, ((I.of .i64 0), ())), ([], ()))
noncomputable def pontageref25_Escrow_L1Balances (K : Nat) (x : (⟨[.bp Y_pontageref25_Escrow], []⟩ : Tm).D) : Option (⟨[.whole 0], [.row Y_api_Payment]⟩ : Tm).D :=
 let a : S_pontageref25_Escrow := x.1.1
 iter (none) (fun (x0 : ((S_pontageref25_Escrow × ((I .i64) × Unit)) × ((List S_api_Payment) × Unit))) =>
   brn (@I.ltb .i64 x0.1.2.1 (I.ofNat .i64 (@lenL S_api_Payment x0.1.1.2.2.2.1)))
    (jn (fun (x1 : ((S_pontageref25_Escrow × ((I .i64) × ((I .i64) × Unit))) × ((List S_api_Payment) × Unit))) =>
      brn (@inB' .i64 x1.1.2.2.1 (@lenL S_api_Payment x1.2.1))
       (brn (@eqV .i64 .i64 x1.1.2.2.1 x1.1.2.2.1)
        (brn (@inB .i64 x1.1.2.1 (@lenL S_api_Payment x1.1.1.2.2.2.1))
         (brn (@inB' .i64 x1.1.2.2.1 (@lenL S_api_Payment x1.2.1))
          (brn (fitsLen (@lenL S_api_Payment (@appL S_api_Payment ((@rdL S_api_Payment Z_S_api_Payment x1.1.1.2.2.2.1 (@I.nat .i64 x1.1.2.1)) :: []) (@subL S_api_Payment x1.2.1 (@I.nat .i64 x1.1.2.2.1) ((@lenL S_api_Payment x1.2.1) - (@I.nat .i64 x1.1.2.2.1))))))
           (brn (fitsLen (@lenL S_api_Payment (@appL S_api_Payment (@subL S_api_Payment x1.2.1 0 (@I.nat .i64 x1.1.2.2.1)) (@appL S_api_Payment ((@rdL S_api_Payment Z_S_api_Payment x1.1.1.2.2.2.1 (@I.nat .i64 x1.1.2.1)) :: []) (@subL S_api_Payment x1.2.1 (@I.nat .i64 x1.1.2.2.1) ((@lenL S_api_Payment x1.2.1) - (@I.nat .i64 x1.1.2.2.1)))))))
            (brn (emptyN (@lenL S_api_Payment (@appL S_api_Payment ((@rdL S_api_Payment Z_S_api_Payment x1.1.1.2.2.2.1 (@I.nat .i64 x1.1.2.1)) :: []) (@subL S_api_Payment x1.2.1 (@I.nat .i64 x1.1.2.2.1) ((@lenL S_api_Payment x1.2.1) - (@I.nat .i64 x1.1.2.2.1))))))
             (.done (none))
             (.again ((x1.1.1, ((@I.add .i64 x1.1.2.1 (I.of .i64 1)), ())), ((@appL S_api_Payment (@subL S_api_Payment x1.2.1 0 (@I.nat .i64 x1.1.2.2.1)) (@appL S_api_Payment ((@rdL S_api_Payment Z_S_api_Payment x1.1.1.2.2.2.1 (@I.nat .i64 x1.1.2.1)) :: []) (@subL S_api_Payment x1.2.1 (@I.nat .i64 x1.1.2.2.1) ((@lenL S_api_Payment x1.2.1) - (@I.nat .i64 x1.1.2.2.1))))), ()))))
            (.done (none)))
           (.done (none)))
          (.done (none)))
         (.done (none)))
        (.done (none)))
       (.done (none))) fun j1 =>
    iter (.done (none)) (fun x2 =>
      brn (@I.ltb .i64 (I.of .i64 0) x2.1.2.2.1)
       (brn (@inB .i64 (@I.sub .i64 x2.1.2.2.1 (I.of .i64 1)) (@lenL S_api_Payment x2.2.1))
        (brn (@inB .i64 x2.1.2.1 (@lenL S_api_Payment x2.1.1.2.2.2.1))
         (brn (@I.ltb .u64 (@rdL S_api_Payment Z_S_api_Payment x2.1.1.2.2.2.1 (@I.nat .i64 x2.1.2.1)).1 (@rdL S_api_Payment Z_S_api_Payment x2.2.1 (@I.nat .i64 (@I.sub .i64 x2.1.2.2.1 (I.of .i64 1)))).1)
          (.again ((x2.1.1, (x2.1.2.1, ((@I.sub .i64 x2.1.2.2.1 (I.of .i64 1)), ()))), (x2.2.1, ())))
          (.done (j1 ((x2.1.1, (x2.1.2.1, (x2.1.2.2.1, ()))), (x2.2.1, ())))))
         (.done (.done (none))))
        (.done (.done (none))))
       (.done (j1 ((x2.1.1, (x2.1.2.1, (x2.1.2.2.1, ()))), (x2.2.1, ())))))
    K ((x0.1.1, (x0.1.2.1, ((I.ofNat .i64 (@lenL S_api_Payment x0.2.1)), ()))), (x0.2.1, ())))
    (.done (some ((), (x0.2.1, ())))))
 K ((a, ((I.of .i64 0), ())), ([], ()))
noncomputable def pontageref28_Machine_State (K : Nat) (x : (⟨[.ptr 0 []], H_pontageref28_Machine⟩ : Tm).D) : Option (⟨[.pair (.pl (.int .u64)) (.pair (.pl Y_api_Params) (.pair (.pl Y_api_Block) (.pair (.pl (.int .u64)) (.pair (.pair (.pl u256) (.pair (.pl (.int .u64)) (.pair (.pl (.int .u64)) (.pair (.pl (.int .u64)) (.pair (.pl Y_api_Int256) (.pair (.whole 8) (.pl .nil))))))) (.pair (.whole 9) (.pair (.pl (.arr 4 u256)) (.pair (.whole 10) (.pair (.whole 11) (.pair (.pl u256) (.pair (.whole 12) (.pl .nil)))))))))))], [.box Y_pontageref28_Machine (.pair (.pl (.int .u64)) (.pair (.pl Y_api_Params) (.pair (.pl Y_api_Block) (.pair (.pl (.int .u64)) (.pair (.pl Y_api_Pricer) (.pair (.ptr 1 []) (.pair (.whole 3) (.pair (.ptr 2 []) (.pl .nil))))))))), .box Y_pontageref11_Ledger (.pair (.whole 4) (.pl (.cons (.arr 4 u256) .nil))), .box Y_pontageref25_Escrow (.pair (.pl u256) (.pair (.whole 5) (.pair (.whole 6) (.pair (.whole 7) (.pl .nil))))), .row Y_api_Message, .row Y_api_Account, .row (.arr 32 (.int .u8)), .row (.int .u64), .row Y_api_Payment, .row Y_api_Poster, .row Y_api_Account, .row Y_api_Message, .row .bool, .row Y_api_Payment]⟩ : Tm).D :=
 let h0 : O_pontageref28_Machine := x.2.1
 let h1 : O_pontageref11_Ledger := x.2.2.1
 let h2 : O_pontageref25_Escrow := x.2.2.2.1
 let h3 : (List S_api_Message) := x.2.2.2.2.1
 let h4 : (List S_api_Account) := x.2.2.2.2.2.1
 let h5 : (List S_A32_intu8) := x.2.2.2.2.2.2.1
 let h6 : (List (I .u64)) := x.2.2.2.2.2.2.2.1
 let h7 : (List S_api_Payment) := x.2.2.2.2.2.2.2.2.1
 optF (none) (pontageref11_Ledger_Accounts K (((h4, h1.2), ()), ())) fun y0 =>
 brn (fitsLen (@lenL S_api_Message (@appL S_api_Message [] h3)))
  (optF (none) (pontageref25_Escrow_L1Balances K (((h2.1, (h5, (h6, (h7, h2.2.2.2.2)))), ()), ())) fun y1 =>
  brn (fitsLen (@lenL S_api_Poster (@appL S_api_Poster [] h0.2.2.2.2.1.2.2.2.2.2.1)))
   (iter (none) (fun (x2 : (((I .i64) × Unit) × (O_pontageref28_Machine × (O_pontageref11_Ledger × ((List S_api_Account) × ((List S_api_Message) × (O_pontageref25_Escrow × ((List S_A32_intu8) × ((List (I .u64)) × ((List S_api_Payment) × (((I .u64) × (S_api_Params × (S_api_Block × ((I .u64) × ((U × ((I .u64) × ((I .u64) × ((I .u64) × (S_api_Int256 × (Unit × Unit)))))) × (Unit × (S_A4_U × (Unit × (Unit × (U × (Unit × Unit))))))))))) × ((List S_api_Poster) × ((List S_api_Account) × ((List S_api_Message) × ((List Bool) × ((List S_api_Payment) × (((I .u64) × (S_api_Params × (S_api_Block × ((I .u64) × ((U × ((I .u64) × ((I .u64) × ((I .u64) × (S_api_Int256 × (Unit × Unit)))))) × (Unit × (S_A4_U × (Unit × (Unit × (U × (Unit × Unit))))))))))) × ((List S_api_Poster) × ((List S_api_Account) × ((List S_api_Message) × ((List Bool) × ((List S_api_Payment) × Unit)))))))))))))))))))))) =>
     brn (@I.ltb .i64 x2.1.1 (I.ofNat .i64 (@lenL S_api_Message x2.2.2.2.2.1)))
      (optF (.done (none)) (pontageref25_Escrow_Claimed K (((x2.2.2.2.2.2.1.1, (x2.2.2.2.2.2.2.1, (x2.2.2.2.2.2.2.2.1, (x2.2.2.2.2.2.2.2.2.1, x2.2.2.2.2.2.1.2.2.2.2)))), ((I.conv (k := .i64) .u64 x2.1.1), ())), ())) fun y3 =>
      brn (fitsLen (@lenL Bool (@appL Bool x2.2.2.2.2.2.2.2.2.2.2.2.2.2.2.2.2.2.2.2.1 (y3.1.1 :: []))))
       (.again (((@I.add .i64 x2.1.1 (I.of .i64 1)), ()), ((x2.2.1.1, (x2.2.1.2.1, (x2.2.1.2.2.1, (x2.2.1.2.2.2.1, (x2.2.1.2.2.2.2.1, ((), ((), ((), x2.2.1.2.2.2.2.2.2.2.2)))))))), (((), x2.2.2.1.2), (x2.2.2.2.1, (x2.2.2.2.2.1, ((x2.2.2.2.2.2.1.1, ((), ((), ((), x2.2.2.2.2.2.1.2.2.2.2)))), (x2.2.2.2.2.2.2.1, (x2.2.2.2.2.2.2.2.1, (x2.2.2.2.2.2.2.2.2.1, ((x2.2.2.2.2.2.2.2.2.2.1.1, (x2.2.2.2.2.2.2.2.2.2.1.2.1, (x2.2.2.2.2.2.2.2.2.2.1.2.2.1, (x2.2.2.2.2.2.2.2.2.2.1.2.2.2.1, ((x2.2.2.2.2.2.2.2.2.2.1.2.2.2.2.1.1, (x2.2.2.2.2.2.2.2.2.2.1.2.2.2.2.1.2.1, (x2.2.2.2.2.2.2.2.2.2.1.2.2.2.2.1.2.2.1, (x2.2.2.2.2.2.2.2.2.2.1.2.2.2.2.1.2.2.2.1, (x2.2.2.2.2.2.2.2.2.2.1.2.2.2.2.1.2.2.2.2.1, ((), x2.2.2.2.2.2.2.2.2.2.1.2.2.2.2.1.2.2.2.2.2.2)))))), ((), (x2.2.2.2.2.2.2.2.2.2.1.2.2.2.2.2.2.1, ((), ((), (x2.2.2.2.2.2.2.2.2.2.1.2.2.2.2.2.2.2.2.2.1, ((), x2.2.2.2.2.2.2.2.2.2.1.2.2.2.2.2.2.2.2.2.2.2))))))))))), (x2.2.2.2.2.2.2.2.2.2.2.1, (x2.2.2.2.2.2.2.2.2.2.2.2.1, (x2.2.2.2.2.2.2.2.2.2.2.2.2.1, (x2.2.2.2.2.2.2.2.2.2.2.2.2.2.1, (x2.2.2.2.2.2.2.2.2.2.2.2.2.2.2.1, ((x2.2.2.2.2.2.2.2.2.2.2.2.2.2.2.2.1.1, (x2.2.2.2.2.2.2.2.2.2.2.2.2.2.2.2.1.2.1, (x2.2.2.2.2.2.2.2.2.2.2.2.2.2.2.2.1.2.2.1, (x2.2.2.2.2.2.2.2.2.2.2.2.2.2.2.2.1.2.2.2.1, ((x2.2.2.2.2.2.2.2.2.2.2.2.2.2.2.2.1.2.2.2.2.1.1, (x2.2.2.2.2.2.2.2.2.2.2.2.2.2.2.2.1.2.2.2.2.1.2.1, (x2.2.2.2.2.2.2.2.2.2.2.2.2.2.2.2.1.2.2.2.2.1.2.2.1, (x2.2.2.2.2.2.2.2.2.2.2.2.2.2.2.2.1.2.2.2.2.1.2.2.2.1, (x2.2.2.2.2.2.2.2.2.2.2.2.2.2.2.2.1.2.2.2.2.1.2.2.2.2.1, ((), x2.2.2.2.2.2.2.2.2.2.2.2.2.2.2.2.1.2.2.2.2.1.2.2.2.2.2.2)))))), ((), (x2.2.2.2.2.2.2.2.2.2.2.2.2.2.2.2.1.2.2.2.2.2.2.1, ((), ((), (x2.2.2.2.2.2.2.2.2.2.2.2.2.2.2.2.1.2.2.2.2.2.2.2.2.2.1, ((), x2.2.2.2.2.2.2.2.2.2.2.2.2.2.2.2.1.2.2.2.2.2.2.2.2.2.2.2))))))))))), (x2.2.2.2.2.2.2.2.2.2.2.2.2.2.2.2.2.1, (x2.2.2.2.2.2.2.2.2.2.2.2.2.2.2.2.2.2.1, (x2.2.2.2.2.2.2.2.2.2.2.2.2.2.2.2.2.2.2.1, ((@appL Bool x2.2.2.2.2.2.2.2.2.2.2.2.2.2.2.2.2.2.2.2.1 (y3.1.1 :: [])), (x2.2.2.2.2.2.2.2.2.2.2.2.2.2.2.2.2.2.2.2.2.1, ()))))))))))))))))))))))
       (.done (none)))
      (.done (some (((x2.2.2.2.2.2.2.2.2.2.2.2.2.2.2.2.1.1, (x2.2.2.2.2.2.2.2.2.2.2.2.2.2.2.2.1.2.1, (x2.2.2.2.2.2.2.2.2.2.2.2.2.2.2.2.1.2.2.1, (x2.2.2.2.2.2.2.2.2.2.2.2.2.2.2.2.1.2.2.2.1, ((x2.2.2.2.2.2.2.2.2.2.2.2.2.2.2.2.1.2.2.2.2.1.1, (x2.2.2.2.2.2.2.2.2.2.2.2.2.2.2.2.1.2.2.2.2.1.2.1, (x2.2.2.2.2.2.2.2.2.2.2.2.2.2.2.2.1.2.2.2.2.1.2.2.1, (x2.2.2.2.2.2.2.2.2.2.2.2.2.2.2.2.1.2.2.2.2.1.2.2.2.1, (x2.2.2.2.2.2.2.2.2.2.2.2.2.2.2.2.1.2.2.2.2.1.2.2.2.2.1, ((), x2.2.2.2.2.2.2.2.2.2.2.2.2.2.2.2.1.2.2.2.2.1.2.2.2.2.2.2)))))), ((), (x2.2.2.2.2.2.2.2.2.2.2.2.2.2.2.2.1.2.2.2.2.2.2.1, ((), ((), (x2.2.2.2.2.2.2.2.2.2.2.2.2.2.2.2.1.2.2.2.2.2.2.2.2.2.1, ((), x2.2.2.2.2.2.2.2.2.2.2.2.2.2.2.2.1.2.2.2.2.2.2.2.2.2.2.2))))))))))), ()), ((x2.2.1.1, (x2.2.1.2.1, (x2.2.1.2.2.1, (x2.2.1.2.2.2.1, (x2.2.1.2.2.2.2.1, ((), ((), ((), x2.2.1.2.2.2.2.2.2.2.2)))))))), (((), x2.2.2.1.2), ((x2.2.2.2.2.2.1.1, ((), ((), ((), x2.2.2.2.2.2.1.2.2.2.2)))), (x2.2.2.2.2.1, (x2.2.2.2.1, (x2.2.2.2.2.2.2.1, (x2.2.2.2.2.2.2.2.1, (x2.2.2.2.2.2.2.2.2.1, (x2.2.2.2.2.2.2.2.2.2.2.2.2.2.2.2.2.1, (x2.2.2.2.2.2.2.2.2.2.2.2.2.2.2.2.2.2.1, (x2.2.2.2.2.2.2.2.2.2.2.2.2.2.2.2.2.2.2.1, (x2.2.2.2.2.2.2.2.2.2.2.2.2.2.2.2.2.2.2.2.1, (x2.2.2.2.2.2.2.2.2.2.2.2.2.2.2.2.2.2.2.2.2.1, ())))))))))))))))))
   K (((I.of .i64 0), ()), ((h0.1, (h0.2.1, (h0.2.2.1, (h0.2.2.2.1, (h0.2.2.2.2.1, ((), ((), ((), h0.2.2.2.2.2.2.2.2)))))))), (((), h1.2), (h4, (h3, ((h2.1, ((), ((), ((), h2.2.2.2.2)))), (h5, (h6, (h7, (((I.of .u64 0), (Z_S_api_Params, (Z_S_api_Block, ((I.of .u64 0), ((Z_U, ((I.of .u64 0), ((I.of .u64 0), ((I.of .u64 0), (Z_S_api_Int256, ((), ())))))), ((), (Z_S_A4_U, ((), ((), (Z_U, ((), ()))))))))))), ([], ([], ([], ([], ([], ((h0.1, (h0.2.1, (h0.2.2.1, (h0.2.2.2.1, ((h0.2.2.2.2.1.1, (h0.2.2.2.2.1.2.1, (h0.2.2.2.2.1.2.2.1, (h0.2.2.2.2.1.2.2.2.1, (h0.2.2.2.2.1.2.2.2.2.1, ((), h0.2.2.2.2.1.2.2.2.2.2.2)))))), ((), (h1.2.1, ((), ((), (h2.1, ((), ()))))))))))), ((@appL S_api_Poster [] h0.2.2.2.2.1.2.2.2.2.2.1), (y0.2.1, ((@appL S_api_Message [] h3), ([], (y1.2.1, ()))))))))))))))))))))))
   (none))
  (none)
noncomputable def bigsum_Sum_Add (K : Nat) (x : (⟨[.pl (.arr 5 (.int .u64)), .pl u256], []⟩ : Tm).D) : Option (⟨[.pl (.arr 5 (.int .u64))], []⟩ : Tm).D :=
 let a : ((I .u64) × U) := x.1.1
 let b : U := x.1.2.1
 iter (none) (fun x0 =>
   brn (@I.ltb .i64 x0.1.2.1 (I.of .i64 4))
    (brn (@inB .i64 x0.1.2.1 5)
     (brn (@inB .i64 x0.1.2.1 4)
      (optF (.done (none)) (add64F (((@Arr.sel (I .u64) (I.of .u64 0) 5 x0.2.1 (@I.nat .i64 x0.1.2.1)), ((@Arr.sel (I .u64) (I.of .u64 0) 4 x0.2.2.1 (@I.nat .i64 x0.1.2.1)), (x0.1.1, ()))), ())) fun y1 =>
      brn (@inB .i64 x0.1.2.1 5)
       (.again ((y1.1.2.1, ((@I.add .i64 x0.1.2.1 (I.of .i64 1)), ())), ((@Arr.upd (I .u64) 5 x0.2.1 (@I.nat .i64 x0.1.2.1) y1.1.1), (x0.2.2.1, (x0.2.2.2.1, ())))))
       (.done (none)))
      (.done (none)))
     (.done (none)))
    (.done (some (((x0.2.1.1, (x0.2.1.2.1, (x0.2.1.2.2.1, (x0.2.1.2.2.2.1, ((@I.add .u64 x0.2.1.2.2.2.2.1 x0.1.1), ()))))), ()), ()))))
 K (((I.of .u64 0), ((I.of .i64 0), ())), (a, (b, (((I.of .u64 0), Z_U), ()))))
noncomputable def bigsum_Of (K : Nat) (x : (⟨[.pl (.sl u256)], []⟩ : Tm).D) : Option (⟨[.pl (.arr 5 (.int .u64))], []⟩ : Tm).D :=
 let a : (List U) := x.1.1
 iter (none) (fun x0 =>
   brn (@I.ltb .i64 x0.1.2.2.1 x0.1.2.1)
    (brn (@inB .i64 x0.1.2.2.1 (@lenL U x0.1.1))
     (optF (.done (none)) (bigsum_Sum_Add K ((x0.2.2.1, ((@rdL U Z_U x0.1.1 (@I.nat .i64 x0.1.2.2.1)), ())), ())) fun y1 =>
     .again ((x0.1.1, (x0.1.2.1, ((@I.add .i64 x0.1.2.2.1 (I.of .i64 1)), ()))), (x0.2.1, (y1.1.1, ()))))
     (.done (none)))
    (.done (some ((x0.2.2.1, ()), ()))))
 K ((a, ((I.ofNat .i64 (@lenL U a)), ((I.of .i64 0), ()))), (((I.of .u64 0), Z_U), (((I.of .u64 0), Z_U), ())))
noncomputable def audit_supply (K : Nat) (x : (⟨[.pl Y_api_State], []⟩ : Tm).D) : Option (⟨[.pl (.arr 5 (.int .u64))], []⟩ : Tm).D :=
 let a : S_api_State := x.1.1
 optF (none) (bigsum_Of K (((@subL U (@Arr.list U 4 a.2.2.2.2.2.2.1) 0 4), ()), ())) fun y0 =>
 iter (none) (fun x1 =>
   brn (@I.ltb .i64 x1.1.2.2.1 x1.1.2.1)
    (brn (@inB .i64 x1.1.2.2.1 (@lenL S_api_Account x1.1.1))
     (optF (.done (none)) (bigsum_Sum_Add K ((x1.2.2.1, ((@rdL S_api_Account Z_S_api_Account x1.1.1 (@I.nat .i64 x1.1.2.2.1)).2.1, ())), ())) fun y2 =>
     .again ((x1.1.1, (x1.1.2.1, ((@I.add .i64 x1.1.2.2.1 (I.of .i64 1)), ()))), (x1.2.1, (y2.1.1, ()))))
     (.done (none)))
    (.done (some ((x1.2.2.1, ()), ()))))
 K ((a.2.2.2.2.2.1, ((I.ofNat .i64 (@lenL S_api_Account a.2.2.2.2.2.1)), ((I.of .i64 0), ()))), (((I.of .u64 0), Z_U), (y0.1.1, ())))
noncomputable def audit_totalMessages (K : Nat) (x : (⟨[.pl Y_api_State], []⟩ : Tm).D) : Option (⟨[.pl (.arr 5 (.int .u64))], []⟩ : Tm).D :=
 let a : S_api_State := x.1.1
 iter (none) (fun x0 =>
   brn (@I.ltb .i64 x0.1.2.2.1 x0.1.2.1)
    (brn (@inB .i64 x0.1.2.2.1 (@lenL S_api_Message x0.1.1))
     (optF (.done (none)) (bigsum_Sum_Add K ((x0.2.2.1, ((@rdL S_api_Message Z_S_api_Message x0.1.1 (@I.nat .i64 x0.1.2.2.1)).2.2.1, ())), ())) fun y1 =>
     .again ((x0.1.1, (x0.1.2.1, ((@I.add .i64 x0.1.2.2.1 (I.of .i64 1)), ()))), (x0.2.1, (y1.1.1, ()))))
     (.done (none)))
    (.done (some ((x0.2.2.1, ()), ()))))
 K ((a.2.2.2.2.2.2.2.1, ((I.ofNat .i64 (@lenL S_api_Message a.2.2.2.2.2.2.2.1)), ((I.of .i64 0), ()))), (((I.of .u64 0), Z_U), (((I.of .u64 0), Z_U), ())))
noncomputable def audit_debtsBalanced (K : Nat) (x : (⟨[.pl (.sl Y_api_Poster)], []⟩ : Tm).D) : Option (⟨[.pl .bool], []⟩ : Tm).D :=
 let a : (List S_api_Poster) := x.1.1
 iter (none) (fun x0 =>
   brn (@I.ltb .i64 x0.1.2.2.1 x0.1.2.1)
    (brn (@inB .i64 x0.1.2.2.1 (@lenL S_api_Poster x0.1.1))
     (optF (.done (none)) (bigsum_Of K ((((@rdL S_api_Poster Z_S_api_Poster x0.1.1 (@I.nat .i64 x0.1.2.2.1)).2.1 :: ((@rdL S_api_Poster Z_S_api_Poster x0.1.1 (@I.nat .i64 x0.1.2.2.1)).2.2.2.2.1 :: [])), ()), ())) fun y1 =>
     optF (.done (none)) (bigsum_Of K ((((@rdL S_api_Poster Z_S_api_Poster x0.1.1 (@I.nat .i64 x0.1.2.2.1)).2.2.1 :: ((@rdL S_api_Poster Z_S_api_Poster x0.1.1 (@I.nat .i64 x0.1.2.2.1)).2.2.2.1 :: [])), ()), ())) fun y2 =>
     brn (bnot (Ty.eqb (.arr 5 (.int .u64)) y1.1.1 y2.1.1))
      (.done (some ((false, ()), ())))
      (.again ((x0.1.1, (x0.1.2.1, ((@I.add .i64 x0.1.2.2.1 (I.of .i64 1)), ()))), ())))
     (.done (none)))
    (.done (some ((true, ()), ()))))
 K ((a, ((I.ofNat .i64 (@lenL S_api_Poster a)), ((I.of .i64 0), ()))), ())
noncomputable def audit_totalPaid (K : Nat) (x : (⟨[.pl (.sl Y_api_Poster)], []⟩ : Tm).D) : Option (⟨[.pl (.arr 5 (.int .u64))], []⟩ : Tm).D :=
 let a : (List S_api_Poster) := x.1.1
 iter (none) (fun x0 =>
   brn (@I.ltb .i64 x0.1.2.2.1 x0.1.2.1)
    (brn (@inB .i64 x0.1.2.2.1 (@lenL S_api_Poster x0.1.1))
     (optF (.done (none)) (bigsum_Sum_Add K ((x0.2.2.1, ((@rdL S_api_Poster Z_S_api_Poster x0.1.1 (@I.nat .i64 x0.1.2.2.1)).2.2.2.2.1, ())), ())) fun y1 =>
     .again ((x0.1.1, (x0.1.2.1, ((@I.add .i64 x0.1.2.2.1 (I.of .i64 1)), ()))), (x0.2.1, (y1.1.1, ()))))
     (.done (none)))
    (.done (some ((x0.2.2.1, ()), ()))))
 K ((a, ((I.ofNat .i64 (@lenL S_api_Poster a)), ((I.of .i64 0), ()))), (((I.of .u64 0), Z_U), (((I.of .u64 0), Z_U), ())))
noncomputable def audit_Check (K : Nat) (x : (⟨[.pl Y_api_State, .pl Y_api_Totals], []⟩ : Tm).D) : Option (⟨[.pl (.int .i64)], []⟩ : Tm).D :=
 let a : S_api_State := x.1.1
 let b : S_api_Totals := x.1.2.1
 optF (none) (audit_supply K ((a, ()), ())) fun y0 =>
 optF (none) (bigsum_Sum_Add K ((y0.1.1, (b.2.1, ())), ())) fun y1 =>
 optF (none) (bigsum_Of K (((b.1 :: []), ()), ())) fun y2 =>
 brn (bnot (Ty.eqb (.arr 5 (.int .u64)) y1.1.1 y2.1.1))
  (some (((I.of .i64 1), ()), ()))
  (jn (fun (x3 : ((Bool × Unit) × (S_api_State × (S_api_Totals × Unit)))) =>
    brn x3.1.1
     (some (((I.of .i64 2), ()), ()))
     (optF (none) (bigsum_Of K (((x3.2.1.2.2.2.2.2.2.2.2.2.1 :: (x3.2.2.1.2.2.1 :: [])), ()), ())) fun y4 =>
     optF (none) (bigsum_Of K (((x3.2.2.1.1 :: []), ()), ())) fun y5 =>
     brn (bnot (Ty.eqb (.arr 5 (.int .u64)) y4.1.1 y5.1.1))
      (some (((I.of .i64 3), ()), ()))
      (optF (none) (audit_totalMessages K ((x3.2.1, ()), ())) fun y6 =>
      optF (none) (bigsum_Of K (((x3.2.2.1.2.1 :: []), ()), ())) fun y7 =>
      brn (bnot (Ty.eqb (.arr 5 (.int .u64)) y6.1.1 y7.1.1))
       (some (((I.of .i64 4), ()), ()))
       (optF (none) (audit_debtsBalanced K ((x3.2.1.2.2.2.2.1.2.2.2.2.2.1, ()), ())) fun y8 =>
       brn (bnot y8.1.1)
        (some (((I.of .i64 5), ()), ()))
        (optF (none) (audit_totalPaid K ((x3.2.1.2.2.2.2.1.2.2.2.2.2.1, ()), ())) fun y9 =>
        optF (none) (bigsum_Of K (((x3.2.2.1.2.2.2.2.2.2.2.1 :: []), ()), ())) fun y10 =>
        brn (bnot (Ty.eqb (.arr 5 (.int .u64)) y9.1.1 y10.1.1))
         (some (((I.of .i64 6), ()), ()))
         (some (((I.of .i64 0), ()), ()))))))) fun j3 =>
  brn (bnot (Ty.eqb u256 a.2.2.2.2.2.2.1.1 b.2.2.2.2.2.1))
   (j3 ((true, ()), (a, (b, ()))))
   (brn (bnot (Ty.eqb u256 a.2.2.2.2.2.2.1.2.1 b.2.2.2.2.1))
    (j3 ((true, ()), (a, (b, ()))))
    (brn (bnot (Ty.eqb u256 a.2.2.2.2.2.2.1.2.2.2.1 b.2.2.2.2.2.2.1))
     (j3 ((true, ()), (a, (b, ()))))
     (optF (none) (bigsum_Of K (((a.2.2.2.2.2.2.1.2.2.1 :: (b.2.2.2.2.2.2.2.1 :: [])), ()), ())) fun y4 =>
     optF (none) (bigsum_Of K (((b.2.2.2.1 :: []), ()), ())) fun y5 =>
     j3 (((bnot (Ty.eqb (.arr 5 (.int .u64)) y4.1.1 y5.1.1)), ()), (a, (b, ())))))))
noncomputable def pontagelaw31_awake (K : Nat) (x : (⟨[], []⟩ : Tm).D) : Option (⟨[.pl .bool], []⟩ : Tm).D :=
 optF (none) (pontagelaw0_Simulate K (([], (true, ())), ())) fun y0 =>
 optF (none) (audit_Total K (([], ([], ())), ())) fun y1 =>
 optF (none) (pontageref28_New K ((), ())) fun y2 =>
 brn (@I.eqb .i64 y1.1.2.1 (I.of .i64 0))
  (brn (Ty.eqb Y_api_Totals y1.1.1 Z_S_api_Totals)
   (optF (none) (pontageref28_Machine_State K ((), (y2.2.1, (y2.2.2.1, (y2.2.2.2.1, (y2.2.2.2.2.1, (y2.2.2.2.2.2.1, (y2.2.2.2.2.2.2.1, (y2.2.2.2.2.2.2.2.1, (y2.2.2.2.2.2.2.2.2.1, ())))))))))) fun y3 =>
   optF (none) (audit_Check K (((y3.1.1.1, (y3.1.1.2.1, (y3.1.1.2.2.1, (y3.1.1.2.2.2.1, ((y3.1.1.2.2.2.2.1.1, (y3.1.1.2.2.2.2.1.2.1, (y3.1.1.2.2.2.2.1.2.2.1, (y3.1.1.2.2.2.2.1.2.2.2.1, (y3.1.1.2.2.2.2.1.2.2.2.2.1, (y3.2.2.2.2.2.2.2.2.2.1, y3.1.1.2.2.2.2.1.2.2.2.2.2.2)))))), (y3.2.2.2.2.2.2.2.2.2.2.1, (y3.1.1.2.2.2.2.2.2.1, (y3.2.2.2.2.2.2.2.2.2.2.2.1, (y3.2.2.2.2.2.2.2.2.2.2.2.2.1, (y3.1.1.2.2.2.2.2.2.2.2.2.1, (y3.2.2.2.2.2.2.2.2.2.2.2.2.2.1, y3.1.1.2.2.2.2.2.2.2.2.2.2.2))))))))))), (y1.1.1, ())), ())) fun y4 =>
   brn (@I.eqb .i64 y4.1.1 (I.of .i64 0))
    (optF (none) (pontageref28_Machine_State K ((), (y3.2.1, (y3.2.2.1, (y3.2.2.2.1, (y3.2.2.2.2.1, (y3.2.2.2.2.2.1, (y3.2.2.2.2.2.2.1, (y3.2.2.2.2.2.2.2.1, (y3.2.2.2.2.2.2.2.2.1, ())))))))))) fun y5 =>
    optF (none) (audit_Check K (((y5.1.1.1, (y5.1.1.2.1, (y5.1.1.2.2.1, (y5.1.1.2.2.2.1, ((y5.1.1.2.2.2.2.1.1, (y5.1.1.2.2.2.2.1.2.1, (y5.1.1.2.2.2.2.1.2.2.1, (y5.1.1.2.2.2.2.1.2.2.2.1, (y5.1.1.2.2.2.2.1.2.2.2.2.1, (y5.2.2.2.2.2.2.2.2.2.1, y5.1.1.2.2.2.2.1.2.2.2.2.2.2)))))), (y5.2.2.2.2.2.2.2.2.2.2.1, (y5.1.1.2.2.2.2.2.2.1, (y5.2.2.2.2.2.2.2.2.2.2.2.1, (y5.2.2.2.2.2.2.2.2.2.2.2.2.1, (y5.1.1.2.2.2.2.2.2.2.2.2.1, (y5.2.2.2.2.2.2.2.2.2.2.2.2.2.1, y5.1.1.2.2.2.2.2.2.2.2.2.2.2))))))))))), ((((I.of .u64 1), ((I.of .u64 0), ((I.of .u64 0), ((I.of .u64 0), ())))), (Z_U, (Z_U, (Z_U, Z_S_A4_U)))), ())), ())) fun y6 =>
    brn (@I.eqb .i64 y6.1.1 (I.of .i64 1))
     (optF (none) (pontageref28_Machine_State K ((), (y0.2.1, (y0.2.2.1, (y0.2.2.2.1, (y0.2.2.2.2.1, (y0.2.2.2.2.2.1, (y0.2.2.2.2.2.2.1, (y0.2.2.2.2.2.2.2.1, (y0.2.2.2.2.2.2.2.2.1, ())))))))))) fun y7 =>
     optF (none) (audit_Check K (((y7.1.1.1, (y7.1.1.2.1, (y7.1.1.2.2.1, (y7.1.1.2.2.2.1, ((y7.1.1.2.2.2.2.1.1, (y7.1.1.2.2.2.2.1.2.1, (y7.1.1.2.2.2.2.1.2.2.1, (y7.1.1.2.2.2.2.1.2.2.2.1, (y7.1.1.2.2.2.2.1.2.2.2.2.1, (y7.2.2.2.2.2.2.2.2.2.1, y7.1.1.2.2.2.2.1.2.2.2.2.2.2)))))), (y7.2.2.2.2.2.2.2.2.2.2.1, (y7.1.1.2.2.2.2.2.2.1, (y7.2.2.2.2.2.2.2.2.2.2.2.1, (y7.2.2.2.2.2.2.2.2.2.2.2.2.1, (y7.1.1.2.2.2.2.2.2.2.2.2.1, (y7.2.2.2.2.2.2.2.2.2.2.2.2.2.1, y7.1.1.2.2.2.2.2.2.2.2.2.2.2))))))))))), (y1.1.1, ())), ())) fun y8 =>
     some (((@I.eqb .i64 y8.1.1 (I.of .i64 1)), ()), ()))
     (some ((false, ()), ())))
    (some ((false, ()), ())))
   (some ((false, ()), ())))
  (some ((false, ()), ()))
noncomputable def audit_Debited (K : Nat) (x : (⟨[.pl Y_api_Receipt], []⟩ : Tm).D) : Option (⟨[.pl u256, .pl (.int .i64)], []⟩ : Tm).D :=
 let a : S_api_Receipt := x.1.1
 iter (none) (fun (x0 : (((I .i64) × ((I .i64) × Unit)) × (U × (U × ((Bool × Unit) × ((List U) × Unit)))))) =>
   brn (@I.ltb .i64 x0.1.2.1 x0.1.1)
    (brn (@inB .i64 x0.1.2.1 (@lenL U x0.2.2.2.2.1))
     (optF (.done (none)) (uint256_Add ((x0.2.2.1, ((@rdL U Z_U x0.2.2.2.2.1 (@I.nat .i64 x0.1.2.1)), ())), ())) fun y1 =>
     brn x0.2.2.2.1.1
      (.again ((x0.1.1, ((@I.add .i64 x0.1.2.1 (I.of .i64 1)), ())), (x0.2.1, (y1.1.1, ((true, x0.2.2.2.1.2), (x0.2.2.2.2.1, ()))))))
      (.again ((x0.1.1, ((@I.add .i64 x0.1.2.1 (I.of .i64 1)), ())), (x0.2.1, (y1.1.1, (((@I.neb .i64 y1.1.2.1 (I.of .i64 0)), x0.2.2.2.1.2), (x0.2.2.2.2.1, ())))))))
     (.done (none)))
    (.done (brn x0.2.2.2.1.1
     (some ((Z_U, ((I.of .i64 4), ())), ()))
     (some ((x0.2.2.1, ((I.of .i64 0), ())), ())))))
 K (((I.of .i64 5), ((I.of .i64 0), ())), (Z_U, (Z_U, ((false, ()), ((a.2.2.1.2.2.2.2.2.2.1 :: (a.2.2.1.2.2.2.2.2.2.2.1 :: (a.2.2.1.2.2.2.2.2.2.2.2.1 :: (a.2.2.1.2.2.2.2.2.2.2.2.2.1 :: (a.2.2.2.2.1 :: []))))), ())))))
noncomputable def pontageref31_Debited (K : Nat) (x : (⟨[.pl Y_api_Receipt], []⟩ : Tm).D) : Option (⟨[.pl u256, .pl (.int .i64)], []⟩ : Tm).D :=
 let a : S_api_Receipt := x.1.1
 optF (none) (pontageref1_FromUint256 K ((a.2.2.1.2.2.2.2.2.2.1, ()), ())) fun y0 =>
 optF (none) (pontageref1_FromUint256 K ((a.2.2.1.2.2.2.2.2.2.2.1, ()), ())) fun y1 =>
 optF (none) (pontageref1_Add K ((y0.1.1, (y1.1.1, ())), ())) fun y2 =>
 optF (none) (pontageref1_FromUint256 K ((a.2.2.1.2.2.2.2.2.2.2.2.1, ()), ())) fun y3 =>
 optF (none) (pontageref1_FromUint256 K ((a.2.2.1.2.2.2.2.2.2.2.2.2.1, ()), ())) fun y4 =>
 optF (none) (pontageref1_Add K ((y3.1.1, (y4.1.1, ())), ())) fun y5 =>
 optF (none) (pontageref1_Add K ((y2.1.1, (y5.1.1, ())), ())) fun y6 =>
 optF (none) (pontageref1_FromUint256 K ((a.2.2.2.2.1, ()), ())) fun y7 =>
 optF (none) (pontageref1_Add K ((y6.1.1, (y7.1.1, ())), ())) fun y8 =>
 optF (none) (pontageref1_Checked K ((y8.1.1, ()), ())) fun y9 =>
 some ((y9.1.1, (y9.1.2.1, ())), ())
noncomputable def pontagelaw31_AuditDebited (K : Nat) (x : (⟨[.pl Y_api_Receipt, .pl (.arr 5 (.int .u64))], []⟩ : Tm).D) : Option (⟨[.pl .bool], []⟩ : Tm).D :=
 let a : S_api_Receipt := x.1.1
 let b : ((I .u64) × U) := x.1.2.1
 optF (none) (audit_Debited K ((a, ()), ())) fun y0 =>
 optF (none) (pontageref31_Debited K ((a, ()), ())) fun y1 =>
 optF (none) (audit_Debited K ((((I.of .i64 0), ((I.of .i64 0), (((I.of .u64 0), ((I.of .u64 0), ((I.of .u64 0), ((I.of .u64 0), (false, (Z_U, ((b.1, ((I.of .u64 0), ((I.of .u64 0), ((I.of .u64 0), ())))), ((b.2.1, ((I.of .u64 0), ((I.of .u64 0), ((I.of .u64 0), ())))), ((b.2.2.1, ((I.of .u64 0), ((I.of .u64 0), ((I.of .u64 0), ())))), ((b.2.2.2.1, ((I.of .u64 0), ((I.of .u64 0), ((I.of .u64 0), ())))), ())))))))))), (Z_U, ((b.2.2.2.2.1, ((I.of .u64 0), ((I.of .u64 0), ((I.of .u64 0), ())))), ((I.of .u64 0), (Z_U, (Z_U, ([], ()))))))))), ()), ())) fun y2 =>
 optF (none) (pontageref31_Debited K ((((I.of .i64 0), ((I.of .i64 0), (((I.of .u64 0), ((I.of .u64 0), ((I.of .u64 0), ((I.of .u64 0), (false, (Z_U, ((b.1, ((I.of .u64 0), ((I.of .u64 0), ((I.of .u64 0), ())))), ((b.2.1, ((I.of .u64 0), ((I.of .u64 0), ((I.of .u64 0), ())))), ((b.2.2.1, ((I.of .u64 0), ((I.of .u64 0), ((I.of .u64 0), ())))), ((b.2.2.2.1, ((I.of .u64 0), ((I.of .u64 0), ((I.of .u64 0), ())))), ())))))))))), (Z_U, ((b.2.2.2.2.1, ((I.of .u64 0), ((I.of .u64 0), ((I.of .u64 0), ())))), ((I.of .u64 0), (Z_U, (Z_U, ([], ()))))))))), ()), ())) fun y3 =>
 brn (Ty.eqb u256 y0.1.1 y1.1.1)
  (brn (@I.eqb .i64 y0.1.2.1 y1.1.2.1)
   (brn (Ty.eqb u256 y2.1.1 y3.1.1)
    (brn (@I.eqb .i64 y2.1.2.1 y3.1.2.1)
     (optF (none) (pontagelaw31_awake K ((), ())) fun y4 =>
     some ((y4.1.1, ()), ()))
     (some ((false, ()), ())))
    (some ((false, ()), ())))
   (some ((false, ()), ())))
  (some ((false, ()), ()))
end Sym
