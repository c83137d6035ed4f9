/- The given functions as plain functions, as the printer told them. -/
import Derived.Test.YthmdmcdjjopaiaaGreatProg
import Derived.Test.YthmdmcdjjopaiaaGreatPart4
import Derived.Test.YthmdmcdjjopaiaaGreatPart3
namespace Sym
open Go
abbrev S_wirereader_Reader:Type:=(List (I .u8)) × ((I .i64) × (Bool × Unit))
abbrev Y_ledger_Ledger:Ty:=.cons (.sl Y_api_Account) (.cons (.arr 4 u256) .nil)
noncomputable def executor_Machine_ExecuteBytesN (K:Nat) (x:(⟨[.npt,.pl (.sl (.int .u8))],[]⟩:Tm).D):Option (⟨[.pl Y_api_Receipt],[]⟩:Tm).D :=
 some ((((I.of .i64 0),((I.of .i64 1),(Z_S_api_Charge,(Z_U,(Z_U,((I.of .u64 0),(Z_U,(Z_U,([],()))))))))),()),())
noncomputable def executor_Machine_StateN (K:Nat) (x:(⟨[.npt],[]⟩:Tm).D):Option (⟨[.pl Y_api_State],[]⟩:Tm).D :=
 some ((((I.of .u64 0),(Z_S_api_Params,(Z_S_api_Block,((I.of .u64 0),((Z_U,((I.of .u64 0),((I.of .u64 0),((I.of .u64 0),(Z_S_api_Int256,([],())))))),([],(Z_S_A4_U,([],([],(Z_U,([],()))))))))))),()),())
noncomputable def pontagelaw0_EqualAccounts (K:Nat) (x:(⟨[.pl (.sl Y_api_Account),.pl (.sl Y_api_Account)],[]⟩:Tm).D):Option (⟨[.pl .bool],[]⟩:Tm).D :=
 let a:(List S_api_Account):=x.1.1
 let b:(List S_api_Account):=x.1.2.1
 brn (@I.neb .i64 (I.ofNat .i64 (@lenL S_api_Account a)) (I.ofNat .i64 (@lenL S_api_Account b)))
  (some ((false,()),()))
  (iter (none) (fun x0 =>
    brn (@I.ltb .i64 x0.1.2.2.1 (I.ofNat .i64 (@lenL S_api_Account x0.1.1)))
     (brn (@inB .i64 x0.1.2.2.1 (@lenL S_api_Account x0.1.1))
      (brn (@inB .i64 x0.1.2.2.1 (@lenL S_api_Account x0.1.2.1))
       (brn (bnot (Ty.eqb Y_api_Account (@rdL S_api_Account Z_S_api_Account x0.1.1 (@I.nat .i64 x0.1.2.2.1)) (@rdL S_api_Account Z_S_api_Account x0.1.2.1 (@I.nat .i64 x0.1.2.2.1))))
        (.done (some ((false,()),())))
        (.again ((x0.1.1,(x0.1.2.1,((@I.add .i64 x0.1.2.2.1 (I.of .i64 1)),()))),())))
       (.done (none)))
      (.done (none)))
     (.done (some ((true,()),()))))
  K ((a,(b,((I.of .i64 0),()))),()))
noncomputable def pontagelaw0_EqualMessages (K:Nat) (x:(⟨[.pl (.sl Y_api_Report),.pl (.sl Y_api_Report)],[]⟩:Tm).D):Option (⟨[.pl .bool],[]⟩:Tm).D :=
 let a:(List S_api_Message):=x.1.1
 let b:(List S_api_Message):=x.1.2.1
 brn (@I.neb .i64 (I.ofNat .i64 (@lenL S_api_Message a)) (I.ofNat .i64 (@lenL S_api_Message b)))
  (some ((false,()),()))
  (iter (none) (fun x0 =>
    brn (@I.ltb .i64 x0.1.2.2.1 (I.ofNat .i64 (@lenL S_api_Message x0.1.1)))
     (brn (@inB .i64 x0.1.2.2.1 (@lenL S_api_Message x0.1.1))
      (brn (@inB .i64 x0.1.2.2.1 (@lenL S_api_Message x0.1.2.1))
       (brn (bnot (Ty.eqb Y_api_Report (@rdL S_api_Message Z_S_api_Message x0.1.1 (@I.nat .i64 x0.1.2.2.1)) (@rdL S_api_Message Z_S_api_Message x0.1.2.1 (@I.nat .i64 x0.1.2.2.1))))
        (.done (some ((false,()),())))
        (.again ((x0.1.1,(x0.1.2.1,((@I.add .i64 x0.1.2.2.1 (I.of .i64 1)),()))),())))
       (.done (none)))
      (.done (none)))
     (.done (some ((true,()),()))))
  K ((a,(b,((I.of .i64 0),()))),()))
noncomputable def pontagelaw0_EqualBools (K:Nat) (x:(⟨[.pl (.sl .bool),.pl (.sl .bool)],[]⟩:Tm).D):Option (⟨[.pl .bool],[]⟩:Tm).D :=
 let a:(List Bool):=x.1.1
 let b:(List Bool):=x.1.2.1
 brn (@I.neb .i64 (I.ofNat .i64 (@lenL Bool a)) (I.ofNat .i64 (@lenL Bool b)))
  (some ((false,()),()))
  (iter (none) (fun x0 =>
    brn (@I.ltb .i64 x0.1.2.2.1 (I.ofNat .i64 (@lenL Bool x0.1.1)))
     (brn (@inB .i64 x0.1.2.2.1 (@lenL Bool x0.1.1))
      (brn (@inB .i64 x0.1.2.2.1 (@lenL Bool x0.1.2.1))
       (brn (bnot (Ty.eqb .bool (@rdL Bool false x0.1.1 (@I.nat .i64 x0.1.2.2.1)) (@rdL Bool false x0.1.2.1 (@I.nat .i64 x0.1.2.2.1))))
        (.done (some ((false,()),())))
        (.again ((x0.1.1,(x0.1.2.1,((@I.add .i64 x0.1.2.2.1 (I.of .i64 1)),()))),())))
       (.done (none)))
      (.done (none)))
     (.done (some ((true,()),()))))
  K ((a,(b,((I.of .i64 0),()))),()))
noncomputable def pontagelaw0_EqualState (K:Nat) (x:(⟨[.pl Y_api_State,.pl Y_api_State],[]⟩:Tm).D):Option (⟨[.pl .bool],[]⟩:Tm).D :=
 let a:S_api_State:=x.1.1
 let b:S_api_State:=x.1.2.1
 brn (@I.eqb .u64 a.1 b.1)
  (brn (Ty.eqb Y_api_Params a.2.1 b.2.1)
   (brn (Ty.eqb Y_api_Block a.2.2.1 b.2.2.1)
    (brn (@I.eqb .u64 a.2.2.2.1 b.2.2.2.1)
     (optF (none) (pontagelaw0_EqualPricer K ((a.2.2.2.2.1,(b.2.2.2.2.1,())),())) fun y0 =>
     brn y0.1.1
      (optF (none) (pontagelaw0_EqualAccounts K ((a.2.2.2.2.2.1,(b.2.2.2.2.2.1,())),())) fun y1 =>
      brn y1.1.1
       (brn (Ty.eqb (.arr 4 u256) a.2.2.2.2.2.2.1 b.2.2.2.2.2.2.1)
        (optF (none) (pontagelaw0_EqualMessages K ((a.2.2.2.2.2.2.2.1,(b.2.2.2.2.2.2.2.1,())),())) fun y2 =>
        brn y2.1.1
         (optF (none) (pontagelaw0_EqualBools K ((a.2.2.2.2.2.2.2.2.1,(b.2.2.2.2.2.2.2.2.1,())),())) fun y3 =>
         brn y3.1.1
          (brn (Ty.eqb u256 a.2.2.2.2.2.2.2.2.2.1 b.2.2.2.2.2.2.2.2.2.1)
           (optF (none) (pontagelaw0_EqualPayments K ((a.2.2.2.2.2.2.2.2.2.2.1,(b.2.2.2.2.2.2.2.2.2.2.1,())),())) fun y4 =>
           some ((y4.1.1,()),()))
           (some ((false,()),())))
          (some ((false,()),())))
         (some ((false,()),())))
        (some ((false,()),())))
       (some ((false,()),())))
      (some ((false,()),())))
     (some ((false,()),())))
    (some ((false,()),())))
   (some ((false,()),())))
  (some ((false,()),()))
noncomputable def executor_Machine_ClaimN (K:Nat) (x:(⟨[.npt,.pl (.int .u64)],[]⟩:Tm).D):Option (⟨[.pl Y_api_Claim,.pl .bool],[]⟩:Tm).D :=
 some ((((I.of .u64 0),((I.of .u64 0),((I.of .u64 0),(Z_U,([],()))))),(false,())),())
noncomputable def pontagelaw0_EqualReceipt (K:Nat) (x:(⟨[.pl Y_api_Receipt,.pl Y_api_Receipt],[]⟩:Tm).D):Option (⟨[.pl .bool],[]⟩:Tm).D :=
 let a:S_api_Receipt:=x.1.1
 let b:S_api_Receipt:=x.1.2.1
 brn (@I.eqb .i64 a.1 b.1)
  (brn (@I.eqb .i64 a.2.1 b.2.1)
   (brn (Ty.eqb Y_api_Charge a.2.2.1 b.2.2.1)
    (brn (Ty.eqb u256 a.2.2.2.1 b.2.2.2.1)
     (brn (Ty.eqb u256 a.2.2.2.2.1 b.2.2.2.2.1)
      (brn (@I.eqb .u64 a.2.2.2.2.2.1 b.2.2.2.2.2.1)
       (brn (Ty.eqb u256 a.2.2.2.2.2.2.1 b.2.2.2.2.2.2.1)
        (brn (Ty.eqb u256 a.2.2.2.2.2.2.2.1 b.2.2.2.2.2.2.2.1)
         (optF (none) (pontagelaw0_EqualMessages K ((a.2.2.2.2.2.2.2.2.1,(b.2.2.2.2.2.2.2.2.1,())),())) fun y0 =>
         some ((y0.1.1,()),()))
         (some ((false,()),())))
        (some ((false,()),())))
       (some ((false,()),())))
      (some ((false,()),())))
     (some ((false,()),())))
    (some ((false,()),())))
   (some ((false,()),())))
  (some ((false,()),()))
noncomputable def executor_Machine_ExecuteN (K:Nat) (x:(⟨[.npt,.pl Y_api_Step],[]⟩:Tm).D):Option (⟨[.pl Y_api_Receipt],[]⟩:Tm).D :=
 some ((((I.of .i64 0),((I.of .i64 1),(Z_S_api_Charge,(Z_U,(Z_U,((I.of .u64 0),(Z_U,(Z_U,([],()))))))))),()),())
noncomputable def executor_Machine_StateHashN (K:Nat) (x:(⟨[.npt],[]⟩:Tm).D):Option (⟨[.pl (.arr 32 (.int .u8))],[]⟩:Tm).D :=
 some ((Z_S_A32_intu8,()),())
noncomputable def executor_Machine_count (K:Nat) (x:(⟨[.ptr 0 []],H_executor_Machine⟩:Tm).D):Option (⟨[],H_executor_Machine⟩:Tm).D :=
 let h0:O_executor_Machine:=x.2.1
 let h1:O_ledger_Ledger:=x.2.2.1
 let h2:O_outbox_Outbox:=x.2.2.2.1
 let h3:O_merkle_Tree:=x.2.2.2.2.1
 let h4:O_escrow_Escrow:=x.2.2.2.2.2.1
 let h5:(List S_api_Account):=x.2.2.2.2.2.2.1
 let h6:(List S_api_Message):=x.2.2.2.2.2.2.2.1
 let h7:(List S_A32_intu8):=x.2.2.2.2.2.2.2.2.1
 let h8:(List S_A32_intu8):=x.2.2.2.2.2.2.2.2.2.1
 let h9:(List Bool):=x.2.2.2.2.2.2.2.2.2.2.1
 let h10:(List S_api_Payment):=x.2.2.2.2.2.2.2.2.2.2.2.1
 brn (@I.ltb .u64 h0.1 (I.of .u64 18446744073709551615))
  (some ((),(((@I.add .u64 h0.1 (I.of .u64 1)),h0.2),(h1,(h2,(h3,(h4,(h5,(h6,(h7,(h8,(h9,(h10,())))))))))))))
  (some ((),(h0,(h1,(h2,(h3,(h4,(h5,(h6,(h7,(h8,(h9,(h10,())))))))))))))
noncomputable def ledger_Ledger_find (K:Nat) (x:(⟨[.bp Y_ledger_Ledger,.pl (.int .u64)],[]⟩:Tm).D):Option (⟨[.pl (.int .i64),.pl .bool],[]⟩:Tm).D :=
 let a:S_ledger_Ledger:=x.1.1
 let b:(I .u64):=x.1.2.1
 iter (none) (fun x0 =>
   brn (@I.ltb .i64 x0.1.2.2.2.1 x0.1.2.2.2.2.1)
    (brn (@inB .i64 (I.conv (k:=.u64) .i64 (@I.shr .u64 .u64 (I.conv (k:=.i64) .u64 (@I.add .i64 x0.1.2.2.2.1 x0.1.2.2.2.2.1)) (I.of .u64 1))) (@lenL S_api_Account x0.1.1))
     (brn (@I.neb .u64 (@rdL S_api_Account Z_S_api_Account x0.1.1 (@I.nat .i64 (I.conv (k:=.u64) .i64 (@I.shr .u64 .u64 (I.conv (k:=.i64) .u64 (@I.add .i64 x0.1.2.2.2.1 x0.1.2.2.2.2.1)) (I.of .u64 1))))).1 (@rdL S_api_Account Z_S_api_Account x0.1.1 (@I.nat .i64 (I.conv (k:=.u64) .i64 (@I.shr .u64 .u64 (I.conv (k:=.i64) .u64 (@I.add .i64 x0.1.2.2.2.1 x0.1.2.2.2.2.1)) (I.of .u64 1))))).1)
      (brn (@I.neb .u64 x0.1.2.1 x0.1.2.1)
       (.again ((x0.1.1,(x0.1.2.1,(x0.1.2.2.1,(x0.1.2.2.2.1,((I.conv (k:=.u64) .i64 (@I.shr .u64 .u64 (I.conv (k:=.i64) .u64 (@I.add .i64 x0.1.2.2.2.1 x0.1.2.2.2.2.1)) (I.of .u64 1))),()))))),()))
       (.again ((x0.1.1,(x0.1.2.1,(x0.1.2.2.1,((@I.add .i64 (I.conv (k:=.u64) .i64 (@I.shr .u64 .u64 (I.conv (k:=.i64) .u64 (@I.add .i64 x0.1.2.2.2.1 x0.1.2.2.2.2.1)) (I.of .u64 1))) (I.of .i64 1)),(x0.1.2.2.2.2.1,()))))),())))
      (brn (@I.neb .u64 x0.1.2.1 x0.1.2.1)
       (.again ((x0.1.1,(x0.1.2.1,(x0.1.2.2.1,(x0.1.2.2.2.1,((I.conv (k:=.u64) .i64 (@I.shr .u64 .u64 (I.conv (k:=.i64) .u64 (@I.add .i64 x0.1.2.2.2.1 x0.1.2.2.2.2.1)) (I.of .u64 1))),()))))),()))
       (brn (@I.ltb .u64 (@rdL S_api_Account Z_S_api_Account x0.1.1 (@I.nat .i64 (I.conv (k:=.u64) .i64 (@I.shr .u64 .u64 (I.conv (k:=.i64) .u64 (@I.add .i64 x0.1.2.2.2.1 x0.1.2.2.2.2.1)) (I.of .u64 1))))).1 x0.1.2.1)
        (.again ((x0.1.1,(x0.1.2.1,(x0.1.2.2.1,((@I.add .i64 (I.conv (k:=.u64) .i64 (@I.shr .u64 .u64 (I.conv (k:=.i64) .u64 (@I.add .i64 x0.1.2.2.2.1 x0.1.2.2.2.2.1)) (I.of .u64 1))) (I.of .i64 1)),(x0.1.2.2.2.2.1,()))))),()))
        (brn (@I.ltb .u64 x0.1.2.1 (@rdL S_api_Account Z_S_api_Account x0.1.1 (@I.nat .i64 (I.conv (k:=.u64) .i64 (@I.shr .u64 .u64 (I.conv (k:=.i64) .u64 (@I.add .i64 x0.1.2.2.2.1 x0.1.2.2.2.2.1)) (I.of .u64 1))))).1)
         (.again ((x0.1.1,(x0.1.2.1,(x0.1.2.2.1,(x0.1.2.2.2.1,((I.conv (k:=.u64) .i64 (@I.shr .u64 .u64 (I.conv (k:=.i64) .u64 (@I.add .i64 x0.1.2.2.2.1 x0.1.2.2.2.2.1)) (I.of .u64 1))),()))))),()))
         (.again ((x0.1.1,(x0.1.2.1,(x0.1.2.2.1,(x0.1.2.2.2.1,((I.conv (k:=.u64) .i64 (@I.shr .u64 .u64 (I.conv (k:=.i64) .u64 (@I.add .i64 x0.1.2.2.2.1 x0.1.2.2.2.2.1)) (I.of .u64 1))),()))))),()))))))
     (.done (none)))
    (.done (brn (@I.ltb .i64 x0.1.2.2.2.1 x0.1.2.2.1)
     (brn (@inB .i64 x0.1.2.2.2.1 (@lenL S_api_Account x0.1.1))
      (brn (@I.neb .u64 (@rdL S_api_Account Z_S_api_Account x0.1.1 (@I.nat .i64 x0.1.2.2.2.1)).1 (@rdL S_api_Account Z_S_api_Account x0.1.1 (@I.nat .i64 x0.1.2.2.2.1)).1)
       (brn (@I.neb .u64 x0.1.2.1 x0.1.2.1)
        (some ((x0.1.2.2.2.1,(true,())),()))
        (some ((x0.1.2.2.2.1,(false,())),())))
       (brn (@I.neb .u64 x0.1.2.1 x0.1.2.1)
        (some ((x0.1.2.2.2.1,(false,())),()))
        (brn (@I.ltb .u64 (@rdL S_api_Account Z_S_api_Account x0.1.1 (@I.nat .i64 x0.1.2.2.2.1)).1 x0.1.2.1)
         (some ((x0.1.2.2.2.1,(false,())),()))
         (brn (@I.ltb .u64 x0.1.2.1 (@rdL S_api_Account Z_S_api_Account x0.1.1 (@I.nat .i64 x0.1.2.2.2.1)).1)
          (some ((x0.1.2.2.2.1,(false,())),()))
          (some ((x0.1.2.2.2.1,(true,())),()))))))
      (none))
     (some ((x0.1.2.2.2.1,(false,())),())))))
 K ((a.1,(b,((I.ofNat .i64 (@lenL S_api_Account a.1)),((I.of .i64 0),((I.ofNat .i64 (@lenL S_api_Account a.1)),()))))),())
noncomputable def ledger_Ledger_get (K:Nat) (x:(⟨[.bp Y_ledger_Ledger,.pl (.int .u64)],[]⟩:Tm).D):Option (⟨[.pl Y_api_Account],[]⟩:Tm).D :=
 let a:S_ledger_Ledger:=x.1.1
 let b:(I .u64):=x.1.2.1
 optF (none) (ledger_Ledger_find K ((a,(b,())),())) fun y0 =>
 brn y0.1.2.1
  (brn (@inB .i64 y0.1.1 (@lenL S_api_Account a.1))
   (some (((@rdL S_api_Account Z_S_api_Account a.1 (@I.nat .i64 y0.1.1)),()),()))
   (none))
  (some (((b,(Z_U,((I.of .u64 0),()))),()),()))
noncomputable def ledger_Ledger_Nonce (K:Nat) (x:(⟨[.bp Y_ledger_Ledger,.pl (.int .u64)],[]⟩:Tm).D):Option (⟨[.pl (.int .u64)],[]⟩:Tm).D :=
 let a:S_ledger_Ledger:=x.1.1
 let b:(I .u64):=x.1.2.1
 optF (none) (ledger_Ledger_get K ((a,(b,())),())) fun y0 =>
 some ((y0.1.1.2.2.1,()),())
noncomputable def block_GasRemaining (K:Nat) (x:(⟨[.pl Y_api_Block,.pl Y_api_Params],[]⟩:Tm).D):Option (⟨[.pl (.int .u64)],[]⟩:Tm).D :=
 let a:S_api_Block:=x.1.1
 let b:S_api_Params:=x.1.2.1
 brn (@I.leb .u64 b.2.2.2.2.1 a.2.2.1)
  (some (((I.of .u64 0),()),()))
  (some (((@I.sub .u64 b.2.2.2.2.1 a.2.2.1),()),()))
noncomputable def ledger_Ledger_Balance (K:Nat) (x:(⟨[.bp Y_ledger_Ledger,.pl (.int .u64)],[]⟩:Tm).D):Option (⟨[.pl u256],[]⟩:Tm).D :=
 let a:S_ledger_Ledger:=x.1.1
 let b:(I .u64):=x.1.2.1
 optF (none) (ledger_Ledger_get K ((a,(b,())),())) fun y0 =>
 some ((y0.1.1.2.1,()),())
noncomputable def executor_Machine_checkTransaction (K:Nat) (x:(⟨[.ptr 0 [],.pl Y_api_Transaction],H_executor_Machine⟩:Tm).D):Option (⟨[.pl u256,.pl Y_api_Charge,.pl (.int .i64)],H_executor_Machine⟩:Tm).D :=
 let a:S_api_Transaction:=x.1.1
 let h0:O_executor_Machine:=x.2.1
 let h1:O_ledger_Ledger:=x.2.2.1
 let h2:O_outbox_Outbox:=x.2.2.2.1
 let h3:O_merkle_Tree:=x.2.2.2.2.1
 let h4:O_escrow_Escrow:=x.2.2.2.2.2.1
 let h5:(List S_api_Account):=x.2.2.2.2.2.2.1
 let h6:(List S_api_Message):=x.2.2.2.2.2.2.2.1
 let h7:(List S_A32_intu8):=x.2.2.2.2.2.2.2.2.1
 let h8:(List S_A32_intu8):=x.2.2.2.2.2.2.2.2.2.1
 let h9:(List Bool):=x.2.2.2.2.2.2.2.2.2.2.1
 let h10:(List S_api_Payment):=x.2.2.2.2.2.2.2.2.2.2.2.1
 optF (none) (ledger_Ledger_Nonce K (((h5,h1.2),(a.1,())),())) fun y0 =>
 jn (fun (x1:(Unit × (O_executor_Machine × (O_ledger_Ledger × ((List S_api_Account) × (O_outbox_Outbox × ((List S_api_Message) × (O_merkle_Tree × ((List S_A32_intu8) × (O_escrow_Escrow × ((List S_A32_intu8) × ((List Bool) × ((List S_api_Payment) × (S_api_Transaction × (U × (S_api_Charge × Unit)))))))))))))))) =>
   optF (none) (txfee_GasPrice K ((x1.2.2.2.2.2.2.2.2.2.2.2.2.1,(x1.2.1.2.2.1.2.2.2.1,())),())) fun y2 =>
   brn (@I.neb .i64 y2.1.2.1 (I.of .i64 0))
    (some ((Z_U,(Z_S_api_Charge,(y2.1.2.1,()))),(x1.2.1,(x1.2.2.1,(x1.2.2.2.2.1,(x1.2.2.2.2.2.2.1,(x1.2.2.2.2.2.2.2.2.1,(x1.2.2.2.1,(x1.2.2.2.2.2.1,(x1.2.2.2.2.2.2.2.1,(x1.2.2.2.2.2.2.2.2.2.1,(x1.2.2.2.2.2.2.2.2.2.2.1,(x1.2.2.2.2.2.2.2.2.2.2.2.1,())))))))))))))
    (optF (none) (block_GasRemaining K ((x1.2.1.2.2.1,(x1.2.1.2.1,())),())) fun y3 =>
    brn (@I.ltb .u64 y3.1.1 x1.2.2.2.2.2.2.2.2.2.2.2.2.1.2.2.2.2.1)
     (some ((Z_U,(Z_S_api_Charge,((I.of .i64 13),()))),(x1.2.1,(x1.2.2.1,(x1.2.2.2.2.1,(x1.2.2.2.2.2.2.1,(x1.2.2.2.2.2.2.2.2.1,(x1.2.2.2.1,(x1.2.2.2.2.2.1,(x1.2.2.2.2.2.2.2.1,(x1.2.2.2.2.2.2.2.2.2.1,(x1.2.2.2.2.2.2.2.2.2.2.1,(x1.2.2.2.2.2.2.2.2.2.2.2.1,())))))))))))))
     (optF (none) (ledger_Ledger_Balance K (((x1.2.2.2.1,x1.2.2.1.2),(x1.2.2.2.2.2.2.2.2.2.2.2.2.1.1,())),())) fun y4 =>
     optF (none) (txfee_Covers K ((x1.2.2.2.2.2.2.2.2.2.2.2.2.1,(y2.1.1,(y4.1.1,()))),())) fun y5 =>
     brn (bnot y5.1.1)
      (some ((Z_U,(Z_S_api_Charge,((I.of .i64 10),()))),(x1.2.1,(x1.2.2.1,(x1.2.2.2.2.1,(x1.2.2.2.2.2.2.1,(x1.2.2.2.2.2.2.2.2.1,(x1.2.2.2.1,(x1.2.2.2.2.2.1,(x1.2.2.2.2.2.2.2.1,(x1.2.2.2.2.2.2.2.2.2.1,(x1.2.2.2.2.2.2.2.2.2.2.1,(x1.2.2.2.2.2.2.2.2.2.2.2.1,())))))))))))))
      (optF (none) (txfee_Compute K ((x1.2.2.2.2.2.2.2.2.2.2.2.2.1,(x1.2.1.2.2.1.2.2.2.1,(x1.2.1.2.2.2.2.1.1,(x1.2.1.2.1,())))),())) fun y6 =>
      some ((y2.1.1,(y6.1.1,(y6.1.2.1,()))),(x1.2.1,(x1.2.2.1,(x1.2.2.2.2.1,(x1.2.2.2.2.2.2.1,(x1.2.2.2.2.2.2.2.2.1,(x1.2.2.2.1,(x1.2.2.2.2.2.1,(x1.2.2.2.2.2.2.2.1,(x1.2.2.2.2.2.2.2.2.2.1,(x1.2.2.2.2.2.2.2.2.2.2.1,(x1.2.2.2.2.2.2.2.2.2.2.2.1,())))))))))))))))) fun j1 =>
 brn (@I.ltb .i64 (I.of .i64 4096) (I.ofNat .i64 (@lenL (I .u8) a.2.2.2.2.2.2.2.2.1)))
  (some ((Z_U,(Z_S_api_Charge,((I.of .i64 6),()))),(h0,(h1,(h2,(h3,(h4,(h5,(h6,(h7,(h8,(h9,(h10,())))))))))))))
  (jn (fun (x2:(((I .u64) × (Bool × Unit)) × (O_executor_Machine × (O_ledger_Ledger × ((List S_api_Account) × (O_outbox_Outbox × ((List S_api_Message) × (O_merkle_Tree × ((List S_A32_intu8) × (O_escrow_Escrow × ((List S_A32_intu8) × ((List Bool) × ((List S_api_Payment) × (S_api_Transaction × (U × (S_api_Charge × Unit)))))))))))))))) =>
    brn x2.1.2.1
     (some ((Z_U,(Z_S_api_Charge,((I.of .i64 2),()))),(x2.2.1,(x2.2.2.1,(x2.2.2.2.2.1,(x2.2.2.2.2.2.2.1,(x2.2.2.2.2.2.2.2.2.1,(x2.2.2.2.1,(x2.2.2.2.2.2.1,(x2.2.2.2.2.2.2.2.1,(x2.2.2.2.2.2.2.2.2.2.1,(x2.2.2.2.2.2.2.2.2.2.2.1,(x2.2.2.2.2.2.2.2.2.2.2.2.1,())))))))))))))
     (brn (@I.neb .u64 x2.2.2.2.2.2.2.2.2.2.2.2.2.1.2.1 x2.1.1)
      (some ((Z_U,(Z_S_api_Charge,((I.of .i64 11),()))),(x2.2.1,(x2.2.2.1,(x2.2.2.2.2.1,(x2.2.2.2.2.2.2.1,(x2.2.2.2.2.2.2.2.2.1,(x2.2.2.2.1,(x2.2.2.2.2.2.1,(x2.2.2.2.2.2.2.2.1,(x2.2.2.2.2.2.2.2.2.2.1,(x2.2.2.2.2.2.2.2.2.2.2.1,(x2.2.2.2.2.2.2.2.2.2.2.2.1,())))))))))))))
      (brn (@I.eqb .u64 x2.1.1 (I.of .u64 18446744073709551615))
       (some ((Z_U,(Z_S_api_Charge,((I.of .i64 4),()))),(x2.2.1,(x2.2.2.1,(x2.2.2.2.2.1,(x2.2.2.2.2.2.2.1,(x2.2.2.2.2.2.2.2.2.1,(x2.2.2.2.1,(x2.2.2.2.2.2.1,(x2.2.2.2.2.2.2.2.1,(x2.2.2.2.2.2.2.2.2.2.1,(x2.2.2.2.2.2.2.2.2.2.2.1,(x2.2.2.2.2.2.2.2.2.2.2.2.1,())))))))))))))
       (j1 ((),(x2.2.1,(x2.2.2.1,(x2.2.2.2.1,(x2.2.2.2.2.1,(x2.2.2.2.2.2.1,(x2.2.2.2.2.2.2.1,(x2.2.2.2.2.2.2.2.1,(x2.2.2.2.2.2.2.2.2.1,(x2.2.2.2.2.2.2.2.2.2.1,(x2.2.2.2.2.2.2.2.2.2.2.1,(x2.2.2.2.2.2.2.2.2.2.2.2.1,(x2.2.2.2.2.2.2.2.2.2.2.2.2.1,(x2.2.2.2.2.2.2.2.2.2.2.2.2.2.1,(x2.2.2.2.2.2.2.2.2.2.2.2.2.2.2.1,()))))))))))))))))))) fun j2 =>
  brn (@I.eqb .u64 a.1 (I.of .u64 0))
   (j2 ((y0.1.1,(true,())),(h0,(h1,(h5,(h2,(h6,(h3,(h7,(h4,(h8,(h9,(h10,(a,(Z_U,(Z_S_api_Charge,()))))))))))))))))
   (brn (@I.eqb .u64 a.2.2.1 (I.of .u64 0))
    (j2 ((y0.1.1,(true,())),(h0,(h1,(h5,(h2,(h6,(h3,(h7,(h4,(h8,(h9,(h10,(a,(Z_U,(Z_S_api_Charge,()))))))))))))))))
    (j2 ((y0.1.1,((@I.eqb .u64 a.1 (I.of .u64 18446744073709551615)),())),(h0,(h1,(h5,(h2,(h6,(h3,(h7,(h4,(h8,(h9,(h10,(a,(Z_U,(Z_S_api_Charge,()))))))))))))))))))
noncomputable def block_UseGas (K:Nat) (x:(⟨[.pl Y_api_Block,.pl (.int .u64),.pl Y_api_Params],[]⟩:Tm).D):Option (⟨[.pl Y_api_Block,.pl (.int .i64)],[]⟩:Tm).D :=
 let a:S_api_Block:=x.1.1
 let b:(I .u64):=x.1.2.1
 let c:S_api_Params:=x.1.2.2.1
 optF (none) (block_GasRemaining K ((a,(c,())),())) fun y0 =>
 brn (@I.ltb .u64 y0.1.1 b)
  (some ((Z_S_api_Block,((I.of .i64 13),())),()))
  (some (((a.1,(a.2.1,((@I.add .u64 a.2.2.1 b),a.2.2.2))),((I.of .i64 0),())),()))
noncomputable def ledger_isVault (K:Nat) (x:(⟨[.pl (.int .i64)],[]⟩:Tm).D):Option (⟨[.pl .bool],[]⟩:Tm).D :=
 let a:(I .i64):=x.1.1
 brn (@I.leb .i64 (I.of .i64 1) a)
  (some (((@I.leb .i64 a (I.of .i64 4)),()),()))
  (some ((false,()),()))
noncomputable def ledger_isEmpty (K:Nat) (x:(⟨[.pl Y_api_Account],[]⟩:Tm).D):Option (⟨[.pl .bool],[]⟩:Tm).D :=
 let a:S_api_Account:=x.1.1
 brn (Ty.eqb u256 a.2.1 Z_U)
  (some (((@I.eqb .u64 a.2.2.1 (I.of .u64 0)),()),()))
  (some ((false,()),()))
noncomputable def ledger_Ledger_set (K:Nat) (x:(⟨[.ptr 0 [],.pl Y_api_Account],H_ledger_Ledger⟩:Tm).D):Option (⟨[],H_ledger_Ledger⟩:Tm).D :=
 let a:S_api_Account:=x.1.1
 let h0:O_ledger_Ledger:=x.2.1
 let h1:(List S_api_Account):=x.2.2.1
 optF (none) (ledger_Ledger_find K (((h1,h0.2),(a.1,())),())) fun y0 =>
 jn (fun (x1:(((I .i64) × (Bool × (Bool × Unit))) × (O_ledger_Ledger × ((List S_api_Account) × (S_api_Account × Unit))))) =>
   brn x1.1.2.2.1
    (optF (none) (delF Y_api_Account ((x1.1.1,((@I.add .i64 x1.1.1 (I.of .i64 1)),())),(x1.2.2.1,()))) fun y2 =>
    some ((),(x1.2.1,(y2.2.1,()))))
    (brn x1.1.2.1
     (brn (@inB .i64 x1.1.1 (@lenL S_api_Account x1.2.2.1))
      (some ((),(x1.2.1,((@setL S_api_Account x1.2.2.1 (@I.nat .i64 x1.1.1) x1.2.2.2.1),()))))
      (none))
     (optF (none) (ledger_isEmpty K ((x1.2.2.2.1,()),())) fun y2 =>
     brn (bnot y2.1.1)
      (optF (none) (insF Y_api_Account ((x1.1.1,()),(x1.2.2.1,((x1.2.2.2.1 :: []),())))) fun y3 =>
      some ((),(x1.2.1,(y3.2.1,()))))
      (some ((),(x1.2.1,(x1.2.2.1,()))))))) fun j1 =>
 brn y0.1.2.1
  (optF (none) (ledger_isEmpty K ((a,()),())) fun y2 =>
  j1 ((y0.1.1,(y0.1.2.1,(y2.1.1,()))),(h0,(h1,(a,())))))
  (j1 ((y0.1.1,(y0.1.2.1,(false,()))),(h0,(h1,(a,())))))
noncomputable def ledger_Ledger_debit (K:Nat) (x:(⟨[.ptr 0 [],.pl (.int .u64),.pl u256],H_ledger_Ledger⟩:Tm).D):Option (⟨[.pl (.int .i64)],H_ledger_Ledger⟩:Tm).D :=
 let a:(I .u64):=x.1.1
 let b:U:=x.1.2.1
 let h0:O_ledger_Ledger:=x.2.1
 let h1:(List S_api_Account):=x.2.2.1
 optF (none) (ledger_Ledger_get K (((h1,h0.2),(a,())),())) fun y0 =>
 optF (none) (uint256_Sub ((y0.1.1.2.1,(b,())),())) fun y1 =>
 brn (@I.neb .i64 y1.1.2.1 (I.of .i64 0))
  (some (((I.of .i64 10),()),(h0,(h1,()))))
  (optF (none) (ledger_Ledger_set K (((y0.1.1.1,(y1.1.1,y0.1.1.2.2)),()),(h0,(h1,())))) fun y2 =>
  some (((I.of .i64 0),()),(y2.2.1,(y2.2.2.1,()))))
noncomputable def ledger_Ledger_PayVault (K:Nat) (x:(⟨[.ptr 0 [],.pl (.int .u64),.pl (.int .i64),.pl u256],H_ledger_Ledger⟩:Tm).D):Option (⟨[.pl (.int .i64)],H_ledger_Ledger⟩:Tm).D :=
 let a:(I .u64):=x.1.1
 let b:(I .i64):=x.1.2.1
 let c:U:=x.1.2.2.1
 let h0:O_ledger_Ledger:=x.2.1
 let h1:(List S_api_Account):=x.2.2.1
 jn (fun (x0:(((I .u64) × ((I .i64) × Unit)) × (O_ledger_Ledger × ((List S_api_Account) × (U × Unit))))) =>
   optF (none) (ledger_Ledger_debit K ((x0.1.1,(x0.2.2.2.1,())),(x0.2.1,(x0.2.2.1,())))) fun y1 =>
   brn (@I.neb .i64 y1.1.1 (I.of .i64 0))
    (some ((y1.1.1,()),(y1.2.1,(y1.2.2.1,()))))
    (brn (@inB .i64 (@I.sub .i64 x0.1.2.1 (I.of .i64 1)) 4)
     (optF (none) (uint256_SaturatingAdd K (((@Arr.sel U Z_U 4 y1.2.1.2.1 (@I.nat .i64 (@I.sub .i64 x0.1.2.1 (I.of .i64 1)))),(x0.2.2.2.1,())),())) fun y2 =>
     brn (@inB .i64 (@I.sub .i64 x0.1.2.1 (I.of .i64 1)) 4)
      (some (((I.of .i64 0),()),(((),((@Arr.upd U 4 y1.2.1.2.1 (@I.nat .i64 (@I.sub .i64 x0.1.2.1 (I.of .i64 1))) y2.1.1),y1.2.1.2.2)),(y1.2.2.1,()))))
      (none))
     (none))) fun j0 =>
 brn (@I.eqb .u64 a (I.of .u64 0))
  (some (((I.of .i64 2),()),(h0,(h1,()))))
  (optF (none) (ledger_isVault K ((b,()),())) fun y1 =>
  brn (bnot y1.1.1)
   (some (((I.of .i64 2),()),(h0,(h1,()))))
   (j0 ((a,(b,())),(h0,(h1,(c,()))))))
noncomputable def ledger_Ledger_IncrementNonce (K:Nat) (x:(⟨[.ptr 0 [],.pl (.int .u64)],H_ledger_Ledger⟩:Tm).D):Option (⟨[.pl (.int .i64)],H_ledger_Ledger⟩:Tm).D :=
 let a:(I .u64):=x.1.1
 let h0:O_ledger_Ledger:=x.2.1
 let h1:(List S_api_Account):=x.2.2.1
 brn (@I.eqb .u64 a (I.of .u64 0))
  (some (((I.of .i64 2),()),(h0,(h1,()))))
  (optF (none) (ledger_Ledger_get K (((h1,h0.2),(a,())),())) fun y0 =>
  brn (@I.eqb .u64 y0.1.1.2.2.1 (I.of .u64 18446744073709551615))
   (some (((I.of .i64 4),()),(h0,(h1,()))))
   (optF (none) (ledger_Ledger_set K (((y0.1.1.1,(y0.1.1.2.1,((@I.add .u64 y0.1.1.2.2.1 (I.of .u64 1)),y0.1.1.2.2.2))),()),(h0,(h1,())))) fun y1 =>
   some (((I.of .i64 0),()),(y1.2.1,(y1.2.2.1,())))))
noncomputable def backlog_Add (K:Nat) (x:(⟨[.pl (.int .u64),.pl (.int .u64)],[]⟩:Tm).D):Option (⟨[.pl (.int .u64)],[]⟩:Tm).D :=
 let a:(I .u64):=x.1.1
 let b:(I .u64):=x.1.2.1
 optF (none) (add64F ((a,(b,((I.of .u64 0),()))),())) fun y0 =>
 brn (@I.neb .u64 y0.1.2.1 (I.of .u64 0))
  (some (((I.of .u64 18446744073709551615),()),()))
  (some ((y0.1.1,()),()))
noncomputable def outbox_Outbox_Len (K:Nat) (x:(⟨[.ptr 0 []],H_outbox_Outbox⟩:Tm).D):Option (⟨[.pl (.int .i64)],H_outbox_Outbox⟩:Tm).D :=
 let h0:O_outbox_Outbox:=x.2.1
 let h1:O_merkle_Tree:=x.2.2.1
 let h2:(List S_api_Message):=x.2.2.2.1
 let h3:(List S_A32_intu8):=x.2.2.2.2.1
 some (((I.ofNat .i64 (@lenL S_api_Message h2)),()),(h0,(h1,(h2,(h3,())))))
noncomputable def hash_roundConstants (K:Nat) (x:(⟨[],[]⟩:Tm).D):Option (⟨[.pl (.arr 64 (.int .u32))],[]⟩:Tm).D :=
 some ((((I.of .u32 1116352408),((I.of .u32 1899447441),((I.of .u32 3049323471),((I.of .u32 3921009573),((I.of .u32 961987163),((I.of .u32 1508970993),((I.of .u32 2453635748),((I.of .u32 2870763221),((I.of .u32 3624381080),((I.of .u32 310598401),((I.of .u32 607225278),((I.of .u32 1426881987),((I.of .u32 1925078388),((I.of .u32 2162078206),((I.of .u32 2614888103),((I.of .u32 3248222580),((I.of .u32 3835390401),((I.of .u32 4022224774),((I.of .u32 264347078),((I.of .u32 604807628),((I.of .u32 770255983),((I.of .u32 1249150122),((I.of .u32 1555081692),((I.of .u32 1996064986),((I.of .u32 2554220882),((I.of .u32 2821834349),((I.of .u32 2952996808),((I.of .u32 3210313671),((I.of .u32 3336571891),((I.of .u32 3584528711),((I.of .u32 113926993),((I.of .u32 338241895),((I.of .u32 666307205),((I.of .u32 773529912),((I.of .u32 1294757372),((I.of .u32 1396182291),((I.of .u32 1695183700),((I.of .u32 1986661051),((I.of .u32 2177026350),((I.of .u32 2456956037),((I.of .u32 2730485921),((I.of .u32 2820302411),((I.of .u32 3259730800),((I.of .u32 3345764771),((I.of .u32 3516065817),((I.of .u32 3600352804),((I.of .u32 4094571909),((I.of .u32 275423344),((I.of .u32 430227734),((I.of .u32 506948616),((I.of .u32 659060556),((I.of .u32 883997877),((I.of .u32 958139571),((I.of .u32 1322822218),((I.of .u32 1537002063),((I.of .u32 1747873779),((I.of .u32 1955562222),((I.of .u32 2024104815),((I.of .u32 2227730452),((I.of .u32 2361852424),((I.of .u32 2428436474),((I.of .u32 2756734187),((I.of .u32 3204031479),((I.of .u32 3329325298),())))))))))))))))))))))))))))))))))))))))))))))))))))))))))))))))),()),())
noncomputable def math_bits_RotateLeft32 (K:Nat) (x:(⟨[.pl (.int .u32),.pl (.int .i64)],[]⟩:Tm).D):Option (⟨[.pl (.int .u32)],[]⟩:Tm).D :=
 let a:(I .u32):=x.1.1
 let b:(I .i64):=x.1.2.1
 brn (@I.nn .u64 (@I.and .u64 (I.conv (k:=.i64) .u64 b) (I.of .u64 31)))
  (brn (@I.nn .u64 (@I.sub .u64 (I.of .u64 32) (@I.and .u64 (I.conv (k:=.i64) .u64 b) (I.of .u64 31))))
   (some (((@I.or .u32 (@I.shl .u32 .u64 a (@I.and .u64 (I.conv (k:=.i64) .u64 b) (I.of .u64 31))) (@I.shr .u32 .u64 a (@I.sub .u64 (I.of .u64 32) (@I.and .u64 (I.conv (k:=.i64) .u64 b) (I.of .u64 31))))),()),()))
   (none))
  (none)
noncomputable def hash_compress (K:Nat) (x:(⟨[.pl (.arr 8 (.int .u32)),.pl (.arr 64 (.int .u32)),.pl (.arr 64 (.int .u32))],[]⟩:Tm).D):Option (⟨[.pl (.arr 8 (.int .u32))],[]⟩:Tm).D :=
 let a:S_A8_intu32:=x.1.1
 let b:S_A64_intu32:=x.1.2.1
 let c:S_A64_intu32:=x.1.2.2.1
 iter (none) (fun x0 =>
   brn (@I.ltb .i64 x0.1.1 (I.of .i64 64))
    (optF (.done (none)) (math_bits_RotateLeft32 K ((x0.2.2.2.2.2.1.2.2.2.2.1,((I.of .i64 (-6)),())),())) fun y1 =>
    optF (.done (none)) (math_bits_RotateLeft32 K ((x0.2.2.2.2.2.1.2.2.2.2.1,((I.of .i64 (-11)),())),())) fun y2 =>
    optF (.done (none)) (math_bits_RotateLeft32 K ((x0.2.2.2.2.2.1.2.2.2.2.1,((I.of .i64 (-25)),())),())) fun y3 =>
    optF (.done (none)) (math_bits_RotateLeft32 K ((x0.2.2.2.2.2.1.1,((I.of .i64 (-2)),())),())) fun y4 =>
    optF (.done (none)) (math_bits_RotateLeft32 K ((x0.2.2.2.2.2.1.1,((I.of .i64 (-13)),())),())) fun y5 =>
    optF (.done (none)) (math_bits_RotateLeft32 K ((x0.2.2.2.2.2.1.1,((I.of .i64 (-22)),())),())) fun y6 =>
    brn (@inB .i64 x0.1.1 64)
     (brn (@inB .i64 x0.1.1 64)
      (.again (((@I.add .i64 x0.1.1 (I.of .i64 1)),()),(x0.2.1,(x0.2.2.1,(x0.2.2.2.1,(x0.2.2.2.2.1,(((@I.add .u32 (@I.add .u32 (@I.add .u32 (@I.add .u32 (@I.add .u32 (@I.add .u32 x0.2.2.2.2.2.1.2.2.2.2.2.2.2.1 (@I.xor .u32 (@I.xor .u32 y1.1.1 y2.1.1) y3.1.1)) (@I.xor .u32 (@I.and .u32 x0.2.2.2.2.2.1.2.2.2.2.1 x0.2.2.2.2.2.1.2.2.2.2.2.1) (@I.and .u32 (@I.com .u32 x0.2.2.2.2.2.1.2.2.2.2.1) x0.2.2.2.2.2.1.2.2.2.2.2.2.1))) (@Arr.sel (I .u32) (I.of .u32 0) 64 x0.2.2.2.1 (@I.nat .i64 x0.1.1))) (@Arr.sel (I .u32) (I.of .u32 0) 64 x0.2.2.1 (@I.nat .i64 x0.1.1))) (@I.xor .u32 (@I.xor .u32 y4.1.1 y5.1.1) y6.1.1)) (@I.xor .u32 (@I.xor .u32 (@I.and .u32 x0.2.2.2.2.2.1.1 x0.2.2.2.2.2.1.2.1) (@I.and .u32 x0.2.2.2.2.2.1.1 x0.2.2.2.2.2.1.2.2.1)) (@I.and .u32 x0.2.2.2.2.2.1.2.1 x0.2.2.2.2.2.1.2.2.1))),(x0.2.2.2.2.2.1.1,(x0.2.2.2.2.2.1.2.1,(x0.2.2.2.2.2.1.2.2.1,((@I.add .u32 x0.2.2.2.2.2.1.2.2.2.1 (@I.add .u32 (@I.add .u32 (@I.add .u32 (@I.add .u32 x0.2.2.2.2.2.1.2.2.2.2.2.2.2.1 (@I.xor .u32 (@I.xor .u32 y1.1.1 y2.1.1) y3.1.1)) (@I.xor .u32 (@I.and .u32 x0.2.2.2.2.2.1.2.2.2.2.1 x0.2.2.2.2.2.1.2.2.2.2.2.1) (@I.and .u32 (@I.com .u32 x0.2.2.2.2.2.1.2.2.2.2.1) x0.2.2.2.2.2.1.2.2.2.2.2.2.1))) (@Arr.sel (I .u32) (I.of .u32 0) 64 x0.2.2.2.1 (@I.nat .i64 x0.1.1))) (@Arr.sel (I .u32) (I.of .u32 0) 64 x0.2.2.1 (@I.nat .i64 x0.1.1)))),(x0.2.2.2.2.2.1.2.2.2.2.1,(x0.2.2.2.2.2.1.2.2.2.2.2.1,(x0.2.2.2.2.2.1.2.2.2.2.2.2.1,())))))))),())))))))
      (.done (none)))
     (.done (none)))
    (.done (iter (none) (fun x1 =>
      brn (@I.ltb .i64 x1.1.1 (I.of .i64 8))
       (brn (@inB .i64 x1.1.1 8)
        (brn (@inB .i64 x1.1.1 8)
         (brn (@inB .i64 x1.1.1 8)
          (.again (((@I.add .i64 x1.1.1 (I.of .i64 1)),()),(x1.2.1,(x1.2.2.1,((@Arr.upd (I .u32) 8 x1.2.2.2.1 (@I.nat .i64 x1.1.1) (@I.add .u32 (@Arr.sel (I .u32) (I.of .u32 0) 8 x1.2.2.2.1 (@I.nat .i64 x1.1.1)) (@Arr.sel (I .u32) (I.of .u32 0) 8 x1.2.1 (@I.nat .i64 x1.1.1)))),())))))
          (.done (none)))
         (.done (none)))
        (.done (none)))
       (.done (some ((x1.2.2.2.1,()),()))))
    K (((I.of .i64 0),()),(x0.2.1,(x0.2.2.2.2.1,(x0.2.2.2.2.2.1,())))))))
 K (((I.of .i64 0),()),(a,(b,(c,(Z_S_A8_intu32,(a,()))))))
noncomputable def hash_schedule (K:Nat) (x:(⟨[.pl (.sl (.int .u8))],[]⟩:Tm).D):Option (⟨[.pl (.arr 64 (.int .u32))],[]⟩:Tm).D :=
 let a:(List (I .u8)):=x.1.1
 iter (none) (fun x0 =>
   brn (@I.ltb .i64 x0.1.2.1 (I.of .i64 16))
    (brn (@inB .i64 (@I.mul .i64 (I.of .i64 4) x0.1.2.1) (@lenL (I .u8) x0.1.1))
     (brn (@inB .i64 (@I.add .i64 (@I.mul .i64 (I.of .i64 4) x0.1.2.1) (I.of .i64 1)) (@lenL (I .u8) x0.1.1))
      (brn (@inB .i64 (@I.add .i64 (@I.mul .i64 (I.of .i64 4) x0.1.2.1) (I.of .i64 2)) (@lenL (I .u8) x0.1.1))
       (brn (@inB .i64 (@I.add .i64 (@I.mul .i64 (I.of .i64 4) x0.1.2.1) (I.of .i64 3)) (@lenL (I .u8) x0.1.1))
        (brn (@inB .i64 x0.1.2.1 64)
         (.again ((x0.1.1,((@I.add .i64 x0.1.2.1 (I.of .i64 1)),())),(x0.2.1,((@Arr.upd (I .u32) 64 x0.2.2.1 (@I.nat .i64 x0.1.2.1) (@I.or .u32 (@I.or .u32 (@I.or .u32 (@I.shl .u32 .u64 (I.conv (k:=.u8) .u32 (@rdL (I .u8) (I.of .u8 0) x0.1.1 (@I.nat .i64 (@I.mul .i64 (I.of .i64 4) x0.1.2.1)))) (I.of .u64 24)) (@I.shl .u32 .u64 (I.conv (k:=.u8) .u32 (@rdL (I .u8) (I.of .u8 0) x0.1.1 (@I.nat .i64 (@I.add .i64 (@I.mul .i64 (I.of .i64 4) x0.1.2.1) (I.of .i64 1))))) (I.of .u64 16))) (@I.shl .u32 .u64 (I.conv (k:=.u8) .u32 (@rdL (I .u8) (I.of .u8 0) x0.1.1 (@I.nat .i64 (@I.add .i64 (@I.mul .i64 (I.of .i64 4) x0.1.2.1) (I.of .i64 2))))) (I.of .u64 8))) (I.conv (k:=.u8) .u32 (@rdL (I .u8) (I.of .u8 0) x0.1.1 (@I.nat .i64 (@I.add .i64 (@I.mul .i64 (I.of .i64 4) x0.1.2.1) (I.of .i64 3))))))),()))))
         (.done (none)))
        (.done (none)))
       (.done (none)))
      (.done (none)))
     (.done (none)))
    (.done (iter (none) (fun x1 =>
      brn (@I.ltb .i64 x1.1.1 (I.of .i64 64))
       (brn (@inB .i64 (@I.sub .i64 x1.1.1 (I.of .i64 15)) 64)
        (brn (@inB .i64 (@I.sub .i64 x1.1.1 (I.of .i64 2)) 64)
         (optF (.done (none)) (math_bits_RotateLeft32 K (((@Arr.sel (I .u32) (I.of .u32 0) 64 x1.2.2.1 (@I.nat .i64 (@I.sub .i64 x1.1.1 (I.of .i64 15)))),((I.of .i64 (-7)),())),())) fun y2 =>
         optF (.done (none)) (math_bits_RotateLeft32 K (((@Arr.sel (I .u32) (I.of .u32 0) 64 x1.2.2.1 (@I.nat .i64 (@I.sub .i64 x1.1.1 (I.of .i64 15)))),((I.of .i64 (-18)),())),())) fun y3 =>
         optF (.done (none)) (math_bits_RotateLeft32 K (((@Arr.sel (I .u32) (I.of .u32 0) 64 x1.2.2.1 (@I.nat .i64 (@I.sub .i64 x1.1.1 (I.of .i64 2)))),((I.of .i64 (-17)),())),())) fun y4 =>
         optF (.done (none)) (math_bits_RotateLeft32 K (((@Arr.sel (I .u32) (I.of .u32 0) 64 x1.2.2.1 (@I.nat .i64 (@I.sub .i64 x1.1.1 (I.of .i64 2)))),((I.of .i64 (-19)),())),())) fun y5 =>
         brn (@inB .i64 (@I.sub .i64 x1.1.1 (I.of .i64 16)) 64)
          (brn (@inB .i64 (@I.sub .i64 x1.1.1 (I.of .i64 7)) 64)
           (brn (@inB .i64 x1.1.1 64)
            (.again (((@I.add .i64 x1.1.1 (I.of .i64 1)),()),(x1.2.1,((@Arr.upd (I .u32) 64 x1.2.2.1 (@I.nat .i64 x1.1.1) (@I.add .u32 (@I.add .u32 (@I.add .u32 (@Arr.sel (I .u32) (I.of .u32 0) 64 x1.2.2.1 (@I.nat .i64 (@I.sub .i64 x1.1.1 (I.of .i64 16)))) (@I.xor .u32 (@I.xor .u32 y2.1.1 y3.1.1) (@I.shr .u32 .u64 (@Arr.sel (I .u32) (I.of .u32 0) 64 x1.2.2.1 (@I.nat .i64 (@I.sub .i64 x1.1.1 (I.of .i64 15)))) (I.of .u64 3)))) (@Arr.sel (I .u32) (I.of .u32 0) 64 x1.2.2.1 (@I.nat .i64 (@I.sub .i64 x1.1.1 (I.of .i64 7))))) (@I.xor .u32 (@I.xor .u32 y4.1.1 y5.1.1) (@I.shr .u32 .u64 (@Arr.sel (I .u32) (I.of .u32 0) 64 x1.2.2.1 (@I.nat .i64 (@I.sub .i64 x1.1.1 (I.of .i64 2)))) (I.of .u64 10))))),()))))
            (.done (none)))
           (.done (none)))
          (.done (none)))
         (.done (none)))
        (.done (none)))
       (.done (some ((x1.2.2.1,()),()))))
    K (((I.of .i64 16),()),(x0.2.1,(x0.2.2.1,()))))))
 K ((a,((I.of .i64 0),())),(Z_S_A64_intu32,(Z_S_A64_intu32,())))
noncomputable def hash_Sum (K:Nat) (x:(⟨[.pl (.sl (.int .u8))],[]⟩:Tm).D):Option (⟨[.pl (.arr 32 (.int .u8))],[]⟩:Tm).D :=
 let a:(List (I .u8)):=x.1.1
 optF (none) (slices_Concat___byte_byte_ K (((a :: (KS_80 :: [])),()),())) fun y0 =>
 iter (none) (fun x1 =>
   brn (@I.neb .i64 (@I.rem .i64 (I.ofNat .i64 (@lenL (I .u8) x1.2.2.1)) (I.of .i64 64)) (I.of .i64 56))
    (brn (fitsLen (@lenL (I .u8) (@appL (I .u8) x1.2.2.1 KS_00)))
     (.again ((x1.1.1,()),(x1.2.1,((@appL (I .u8) x1.2.2.1 KS_00),()))))
     (.done (none)))
    (.done (iter (none) (fun x2 =>
      brn (@I.leb .i64 (I.of .i64 0) x2.1.2.1)
       (brn (@I.nn .i64 (@I.mul .i64 (I.of .i64 8) x2.1.2.1))
        (brn (fitsLen (@lenL (I .u8) (@appL (I .u8) x2.2.2.1 ((I.conv (k:=.u64) .u8 (@I.shr .u64 .i64 x2.1.1 (@I.mul .i64 (I.of .i64 8) x2.1.2.1))) :: []))))
         (.again ((x2.1.1,((@I.sub .i64 x2.1.2.1 (I.of .i64 1)),())),(x2.2.1,((@appL (I .u8) x2.2.2.1 ((I.conv (k:=.u64) .u8 (@I.shr .u64 .i64 x2.1.1 (@I.mul .i64 (I.of .i64 8) x2.1.2.1))) :: [])),()))))
         (.done (none)))
        (.done (none)))
       (.done (optF (none) (hash_roundConstants K ((),())) fun y3 =>
       iter (none) (fun x4 =>
         brn (@I.ltb .i64 x4.1.1 (I.ofNat .i64 (@lenL (I .u8) x4.2.2.1)))
          (brn (@inB' .i64 x4.1.1 (@I.nat .i64 (@I.add .i64 x4.1.1 (I.of .i64 64))))
           (brn (@inB' .i64 (@I.add .i64 x4.1.1 (I.of .i64 64)) (@lenL (I .u8) x4.2.2.1))
            (optF (.done (none)) (hash_schedule K (((@subL (I .u8) x4.2.2.1 (@I.nat .i64 x4.1.1) ((@I.nat .i64 (@I.add .i64 x4.1.1 (I.of .i64 64))) - (@I.nat .i64 x4.1.1))),()),())) fun y5 =>
            optF (.done (none)) (hash_compress K ((x4.2.2.2.1,(y5.1.1,(x4.2.2.2.2.1,()))),())) fun y6 =>
            .again (((@I.add .i64 x4.1.1 (I.of .i64 64)),()),(x4.2.1,(x4.2.2.1,(y6.1.1,(x4.2.2.2.2.1,()))))))
            (.done (none)))
           (.done (none)))
          (.done (iter (none) (fun x5 =>
            brn (@I.ltb .i64 x5.1.1 (I.of .i64 32))
             (brn (@inB .i64 (@I.quo .i64 x5.1.1 (I.of .i64 4)) 8)
              (brn (@I.nn .i64 (@I.sub .i64 (I.of .i64 24) (@I.mul .i64 (I.of .i64 8) (@I.rem .i64 x5.1.1 (I.of .i64 4)))))
               (brn (@inB .i64 x5.1.1 32)
                (.again (((@I.add .i64 x5.1.1 (I.of .i64 1)),()),(x5.2.1,(x5.2.2.1,((@Arr.upd (I .u8) 32 x5.2.2.2.1 (@I.nat .i64 x5.1.1) (I.conv (k:=.u32) .u8 (@I.shr .u32 .i64 (@Arr.sel (I .u32) (I.of .u32 0) 8 x5.2.2.1 (@I.nat .i64 (@I.quo .i64 x5.1.1 (I.of .i64 4)))) (@I.sub .i64 (I.of .i64 24) (@I.mul .i64 (I.of .i64 8) (@I.rem .i64 x5.1.1 (I.of .i64 4))))))),())))))
                (.done (none)))
               (.done (none)))
              (.done (none)))
             (.done (some ((x5.2.2.2.1,()),()))))
          K (((I.of .i64 0),()),(x4.2.1,(x4.2.2.2.1,(Z_S_A32_intu8,())))))))
       K (((I.of .i64 0),()),(x2.2.1,(x2.2.2.1,(((I.of .u32 1779033703),((I.of .u32 3144134277),((I.of .u32 1013904242),((I.of .u32 2773480762),((I.of .u32 1359893119),((I.of .u32 2600822924),((I.of .u32 528734635),((I.of .u32 1541459225),())))))))),(y3.1.1,()))))))))
    K ((x1.1.1,((I.of .i64 7),())),(x1.2.1,(x1.2.2.1,()))))))
 K (((@I.mul .u64 (I.conv (k:=.i64) .u64 (I.ofNat .i64 (@lenL (I .u8) a))) (I.of .u64 8)),()),(Z_S_A32_intu8,(y0.2.1,())))
noncomputable def hash_Leaf (K:Nat) (x:(⟨[.pl (.sl (.int .u8))],[]⟩:Tm).D):Option (⟨[.pl (.arr 32 (.int .u8))],[]⟩:Tm).D :=
 let a:(List (I .u8)):=x.1.1
 optF (none) (slices_Concat___byte_byte_ K (((KS_00 :: (a :: [])),()),())) fun y0 =>
 optF (none) (hash_Sum K ((y0.2.1,()),())) fun y1 =>
 some ((y1.1.1,()),())
noncomputable def outbox_Encode (K:Nat) (x:(⟨[.pl Y_api_Report],[]⟩:Tm).D):Option (⟨[.pl (.sl (.int .u8))],[]⟩:Tm).D :=
 let a:S_api_Message:=x.1.1
 optF (none) (wire_AppendUint64 K (([],(a.1,())),())) fun y0 =>
 optF (none) (wire_AppendUint64 K ((y0.2.1,(a.2.1,())),())) fun y1 =>
 optF (none) (wire_AppendUint256 K ((y1.2.1,(a.2.2.1,())),())) fun y2 =>
 some ((y2.2.1,()),())
noncomputable def outbox_Leaf (K:Nat) (x:(⟨[.pl Y_api_Report],[]⟩:Tm).D):Option (⟨[.pl (.arr 32 (.int .u8))],[]⟩:Tm).D :=
 let a:S_api_Message:=x.1.1
 optF (none) (outbox_Encode K ((a,()),())) fun y0 =>
 optF (none) (hash_Leaf K ((y0.1.1,()),())) fun y1 =>
 some ((y1.1.1,()),())
noncomputable def merkle_Tree_Append (K:Nat) (x:(⟨[.ptr 0 [],.pl (.arr 32 (.int .u8))],H_merkle_Tree⟩:Tm).D):Option (⟨[.pl (.int .i64)],H_merkle_Tree⟩:Tm).D :=
 let a:S_A32_intu8:=x.1.1
 let h0:O_merkle_Tree:=x.2.1
 let h1:(List S_A32_intu8):=x.2.2.1
 brn (fitsLen (@lenL S_A32_intu8 (@appL S_A32_intu8 h1 (a :: []))))
  (some (((@I.sub .i64 (I.ofNat .i64 (@lenL S_A32_intu8 (@appL S_A32_intu8 h1 (a :: [])))) (I.of .i64 1)),()),(h0,((@appL S_A32_intu8 h1 (a :: [])),()))))
  (none)
noncomputable def outbox_Outbox_push (K:Nat) (x:(⟨[.ptr 0 [],.pl Y_api_Report],H_outbox_Outbox⟩:Tm).D):Option (⟨[],H_outbox_Outbox⟩:Tm).D :=
 let a:S_api_Message:=x.1.1
 let h0:O_outbox_Outbox:=x.2.1
 let h1:O_merkle_Tree:=x.2.2.1
 let h2:(List S_api_Message):=x.2.2.2.1
 let h3:(List S_A32_intu8):=x.2.2.2.2.1
 brn (fitsLen (@lenL S_api_Message (@appL S_api_Message h2 (a :: []))))
  (optF (none) (outbox_Leaf K ((a,()),())) fun y0 =>
  optF (none) (merkle_Tree_Append K ((y0.1.1,()),(h1,(h3,())))) fun y1 =>
  some ((),(h0,(y1.2.1,((@appL S_api_Message h2 (a :: [])),(y1.2.2.1,()))))))
  (none)
noncomputable def outbox_Outbox_Send (K:Nat) (x:(⟨[.ptr 0 [],.pl (.int .u64),.pl u256],H_outbox_Outbox⟩:Tm).D):Option (⟨[.pl Y_api_Report,.pl (.int .i64)],H_outbox_Outbox⟩:Tm).D :=
 let a:(I .u64):=x.1.1
 let b:U:=x.1.2.1
 let h0:O_outbox_Outbox:=x.2.1
 let h1:O_merkle_Tree:=x.2.2.1
 let h2:(List S_api_Message):=x.2.2.2.1
 let h3:(List S_A32_intu8):=x.2.2.2.2.1
 jn (fun (x0:(((I .u64) × Unit) × (O_outbox_Outbox × ((List S_api_Message) × (O_merkle_Tree × ((List S_A32_intu8) × (U × (S_api_Message × Unit)))))))) =>
   optF (none) (outbox_Outbox_push K ((((I.conv (k:=.i64) .u64 (I.ofNat .i64 (@lenL S_api_Message x0.2.2.1))),(x0.1.1,(x0.2.2.2.2.2.1,()))),()),(x0.2.1,(x0.2.2.2.1,(x0.2.2.1,(x0.2.2.2.2.1,())))))) fun y1 =>
   some ((((I.conv (k:=.i64) .u64 (I.ofNat .i64 (@lenL S_api_Message x0.2.2.1))),(x0.1.1,(x0.2.2.2.2.2.1,()))),((I.of .i64 0),())),y1.2)) fun j0 =>
 brn (@I.eqb .u64 a (I.of .u64 0))
  (some ((Z_S_api_Message,((I.of .i64 2),())),(h0,(h1,(h2,(h3,()))))))
  (brn (Ty.eqb u256 b Z_U)
   (some ((Z_S_api_Message,((I.of .i64 2),())),(h0,(h1,(h2,(h3,()))))))
   (j0 ((a,()),(h0,(h2,(h1,(h3,(b,(Z_S_api_Message,())))))))))
noncomputable def merkle_splitPoint (K:Nat) (x:(⟨[.pl (.int .i64)],[]⟩:Tm).D):Option (⟨[.pl (.int .i64)],[]⟩:Tm).D :=
 let a:(I .i64):=x.1.1
 iter (none) (fun x0 =>
   brn (@I.ltb .i64 x0.1.2.1 (@I.sub .i64 x0.1.1 x0.1.2.1))
    (.again ((x0.1.1,((@I.mul .i64 x0.1.2.1 (I.of .i64 2)),())),()))
    (.done (some ((x0.1.2.1,()),()))))
 K ((a,((I.of .i64 1),())),())
noncomputable def hash_Node (K:Nat) (x:(⟨[.pl (.arr 32 (.int .u8)),.pl (.arr 32 (.int .u8))],[]⟩:Tm).D):Option (⟨[.pl (.arr 32 (.int .u8))],[]⟩:Tm).D :=
 let a:S_A32_intu8:=x.1.1
 let b:S_A32_intu8:=x.1.2.1
 optF (none) (slices_Concat___byte_byte_ K (((KS_01 :: ((@subL (I .u8) (@Arr.list (I .u8) 32 a) 0 32) :: ((@subL (I .u8) (@Arr.list (I .u8) 32 b) 0 32) :: []))),()),())) fun y0 =>
 optF (none) (hash_Sum K ((y0.2.1,()),())) fun y1 =>
 some ((y1.1.1,()),())
noncomputable def merkle_RootOf_stp (K:Nat) (r0:(⟨[.pl (.sl (.arr 32 (.int .u8)))],[]⟩:Tm).D→Option (⟨[.pl (.arr 32 (.int .u8))],[]⟩:Tm).D) (x:(⟨[.pl (.sl (.arr 32 (.int .u8)))],[]⟩:Tm).D):Option (⟨[.pl (.arr 32 (.int .u8))],[]⟩:Tm).D :=
 let a:(List S_A32_intu8):=x.1.1
 brn (@I.eqb .i64 (I.ofNat .i64 (@lenL S_A32_intu8 a)) (I.of .i64 0))
  (optF (none) (hash_Sum K (([],()),())) fun y0 =>
  some ((y0.1.1,()),()))
  (brn (@I.eqb .i64 (I.ofNat .i64 (@lenL S_A32_intu8 a)) (I.of .i64 1))
   (brn (@inB .i64 (I.of .i64 0) (@lenL S_A32_intu8 a))
    (some (((@rdL S_A32_intu8 Z_S_A32_intu8 a 0),()),()))
    (none))
   (optF (none) (merkle_splitPoint K (((I.ofNat .i64 (@lenL S_A32_intu8 a)),()),())) fun y0 =>
   brn (@inB' .i64 y0.1.1 (@lenL S_A32_intu8 a))
    (optF (none) (r0 (((@subL S_A32_intu8 a 0 (@I.nat .i64 y0.1.1)),()),())) fun y1 =>
    brn (@inB' .i64 y0.1.1 (@lenL S_A32_intu8 a))
     (optF (none) (r0 (((@subL S_A32_intu8 a (@I.nat .i64 y0.1.1) ((@lenL S_A32_intu8 a) - (@I.nat .i64 y0.1.1))),()),())) fun y2 =>
     optF (none) (hash_Node K ((y1.1.1,(y2.1.1,())),())) fun y3 =>
     some ((y3.1.1,()),()))
     (none))
    (none)))
noncomputable def merkle_RootOf_rec (K:Nat):Nat→(⟨[.pl (.sl (.arr 32 (.int .u8)))],[]⟩:Tm).D→Option (⟨[.pl (.arr 32 (.int .u8))],[]⟩:Tm).D
 | 0,_=>none
 | k0 + 1,x=>merkle_RootOf_stp K (merkle_RootOf_rec K k0) x
noncomputable def merkle_RootOf (K:Nat) (x:(⟨[.pl (.sl (.arr 32 (.int .u8)))],[]⟩:Tm).D):Option (⟨[.pl (.arr 32 (.int .u8))],[]⟩:Tm).D:=merkle_RootOf_rec K K x
noncomputable def merkle_Tree_Root (K:Nat) (x:(⟨[.bp (.cons (.sl (.arr 32 (.int .u8))) .nil),.pl (.int .i64)],[]⟩:Tm).D):Option (⟨[.pl (.arr 32 (.int .u8)),.pl .bool],[]⟩:Tm).D :=
 let a:((List S_A32_intu8) × Unit):=x.1.1
 let b:(I .i64):=x.1.2.1
 jn (fun (x0:((((List S_A32_intu8) × Unit) × ((I .i64) × Unit)) × (S_A32_intu8 × Unit))) =>
   brn (@inB' .i64 x0.1.2.1 (@lenL S_A32_intu8 x0.1.1.1))
    (optF (none) (merkle_RootOf K (((@subL S_A32_intu8 x0.1.1.1 0 (@I.nat .i64 x0.1.2.1)),()),())) fun y1 =>
    some ((y1.1.1,(true,())),()))
    (none)) fun j0 =>
 brn (@I.ltb .i64 b (I.of .i64 0))
  (some ((Z_S_A32_intu8,(false,())),()))
  (brn (@I.ltb .i64 (I.ofNat .i64 (@lenL S_A32_intu8 a.1)) b)
   (some ((Z_S_A32_intu8,(false,())),()))
   (j0 ((a,(b,())),(Z_S_A32_intu8,()))))
noncomputable def outbox_Outbox_Root (K:Nat) (x:(⟨[.ptr 0 [],.pl (.int .i64)],H_outbox_Outbox⟩:Tm).D):Option (⟨[.pl (.arr 32 (.int .u8)),.pl .bool],H_outbox_Outbox⟩:Tm).D :=
 let a:(I .i64):=x.1.1
 let h0:O_outbox_Outbox:=x.2.1
 let h1:O_merkle_Tree:=x.2.2.1
 let h2:(List S_api_Message):=x.2.2.2.1
 let h3:(List S_A32_intu8):=x.2.2.2.2.1
 optF (none) (merkle_Tree_Root K (((h3,h1.2),(a,())),())) fun y0 =>
 some ((y0.1.1,(y0.1.2.1,())),(h0,(h1,(h2,(h3,())))))
noncomputable def escrow_Escrow_AppendRoot (K:Nat) (x:(⟨[.ptr 0 [],.pl (.arr 32 (.int .u8))],H_escrow_Escrow⟩:Tm).D):Option (⟨[.pl (.int .i64)],H_escrow_Escrow⟩:Tm).D :=
 let a:S_A32_intu8:=x.1.1
 let h0:O_escrow_Escrow:=x.2.1
 let h1:(List S_A32_intu8):=x.2.2.1
 let h2:(List Bool):=x.2.2.2.1
 let h3:(List S_api_Payment):=x.2.2.2.2.1
 brn (fitsLen (@lenL S_A32_intu8 (@appL S_A32_intu8 h1 (a :: []))))
  (brn (fitsLen (@lenL Bool (@appL Bool h2 (false :: []))))
   (some (((I.ofNat .i64 (@lenL S_A32_intu8 (@appL S_A32_intu8 h1 (a :: [])))),()),(h0,((@appL S_A32_intu8 h1 (a :: [])),((@appL Bool h2 (false :: [])),(h3,()))))))
   (none))
  (none)
noncomputable def executor_Machine_send (K:Nat) (x:(⟨[.ptr 0 [],.pl (.int .u64),.pl u256],H_executor_Machine⟩:Tm).D):Option (⟨[.pl Y_api_Report],H_executor_Machine⟩:Tm).D :=
 let a:(I .u64):=x.1.1
 let b:U:=x.1.2.1
 let h0:O_executor_Machine:=x.2.1
 let h1:O_ledger_Ledger:=x.2.2.1
 let h2:O_outbox_Outbox:=x.2.2.2.1
 let h3:O_merkle_Tree:=x.2.2.2.2.1
 let h4:O_escrow_Escrow:=x.2.2.2.2.2.1
 let h5:(List S_api_Account):=x.2.2.2.2.2.2.1
 let h6:(List S_api_Message):=x.2.2.2.2.2.2.2.1
 let h7:(List S_A32_intu8):=x.2.2.2.2.2.2.2.2.1
 let h8:(List S_A32_intu8):=x.2.2.2.2.2.2.2.2.2.1
 let h9:(List Bool):=x.2.2.2.2.2.2.2.2.2.2.1
 let h10:(List S_api_Payment):=x.2.2.2.2.2.2.2.2.2.2.2.1
 optF (none) (outbox_Outbox_Send K ((a,(b,())),(h2,(h3,(h6,(h7,())))))) fun y0 =>
 optF (none) (outbox_Outbox_Len K ((),y0.2)) fun y1 =>
 optF (none) (outbox_Outbox_Root K ((y1.1.1,()),y1.2)) fun y2 =>
 optF (none) (escrow_Escrow_AppendRoot K ((y2.1.1,()),(h4,(h8,(h9,(h10,())))))) fun y3 =>
 some ((y0.1.1,()),(h0,(h1,(y2.2.1,(y2.2.2.1,(y3.2.1,(h5,(y2.2.2.2.1,(y2.2.2.2.2.1,(y3.2.2.1,(y3.2.2.2.1,(y3.2.2.2.2.1,()))))))))))))
noncomputable def ledger_Ledger_credit (K:Nat) (x:(⟨[.ptr 0 [],.pl (.int .u64),.pl u256],H_ledger_Ledger⟩:Tm).D):Option (⟨[],H_ledger_Ledger⟩:Tm).D :=
 let a:(I .u64):=x.1.1
 let b:U:=x.1.2.1
 let h0:O_ledger_Ledger:=x.2.1
 let h1:(List S_api_Account):=x.2.2.1
 optF (none) (ledger_Ledger_get K (((h1,h0.2),(a,())),())) fun y0 =>
 optF (none) (uint256_SaturatingAdd K ((y0.1.1.2.1,(b,())),())) fun y1 =>
 optF (none) (ledger_Ledger_set K (((y0.1.1.1,(y1.1.1,y0.1.1.2.2)),()),(h0,(h1,())))) fun y2 =>
 some ((),(y2.2.1,(y2.2.2.1,())))
noncomputable def ledger_Ledger_Transfer (K:Nat) (x:(⟨[.ptr 0 [],.pl (.int .u64),.pl (.int .u64),.pl u256],H_ledger_Ledger⟩:Tm).D):Option (⟨[.pl (.int .i64)],H_ledger_Ledger⟩:Tm).D :=
 let a:(I .u64):=x.1.1
 let b:(I .u64):=x.1.2.1
 let c:U:=x.1.2.2.1
 let h0:O_ledger_Ledger:=x.2.1
 let h1:(List S_api_Account):=x.2.2.1
 jn (fun (x0:(((I .u64) × ((I .u64) × Unit)) × (O_ledger_Ledger × ((List S_api_Account) × (U × Unit))))) =>
   optF (none) (ledger_Ledger_debit K ((x0.1.1,(x0.2.2.2.1,())),(x0.2.1,(x0.2.2.1,())))) fun y1 =>
   brn (@I.neb .i64 y1.1.1 (I.of .i64 0))
    (some ((y1.1.1,()),(y1.2.1,(y1.2.2.1,()))))
    (optF (none) (ledger_Ledger_credit K ((x0.1.2.1,(x0.2.2.2.1,())),(y1.2.1,(y1.2.2.1,())))) fun y2 =>
    some (((I.of .i64 0),()),(y2.2.1,(y2.2.2.1,()))))) fun j0 =>
 brn (@I.eqb .u64 a (I.of .u64 0))
  (some (((I.of .i64 2),()),(h0,(h1,()))))
  (brn (@I.eqb .u64 b (I.of .u64 0))
   (some (((I.of .i64 2),()),(h0,(h1,()))))
   (j0 ((a,(b,())),(h0,(h1,(c,()))))))
noncomputable def ledger_Ledger_Withdraw (K:Nat) (x:(⟨[.ptr 0 [],.pl (.int .u64),.pl u256],H_ledger_Ledger⟩:Tm).D):Option (⟨[.pl (.int .i64)],H_ledger_Ledger⟩:Tm).D :=
 let a:(I .u64):=x.1.1
 let b:U:=x.1.2.1
 let h0:O_ledger_Ledger:=x.2.1
 let h1:(List S_api_Account):=x.2.2.1
 brn (@I.eqb .u64 a (I.of .u64 0))
  (some (((I.of .i64 2),()),(h0,(h1,()))))
  (optF (none) (ledger_Ledger_debit K ((a,(b,())),(h0,(h1,())))) fun y0 =>
  some ((y0.1.1,()),(y0.2.1,(y0.2.2.1,()))))
noncomputable def executor_Machine_transferValue (K:Nat) (x:(⟨[.ptr 0 [],.pl Y_api_Transaction],H_executor_Machine⟩:Tm).D):Option (⟨[.pl (.sl Y_api_Report)],H_executor_Machine⟩:Tm).D :=
 let a:S_api_Transaction:=x.1.1
 let h0:O_executor_Machine:=x.2.1
 let h1:O_ledger_Ledger:=x.2.2.1
 let h2:O_outbox_Outbox:=x.2.2.2.1
 let h3:O_merkle_Tree:=x.2.2.2.2.1
 let h4:O_escrow_Escrow:=x.2.2.2.2.2.1
 let h5:(List S_api_Account):=x.2.2.2.2.2.2.1
 let h6:(List S_api_Message):=x.2.2.2.2.2.2.2.1
 let h7:(List S_A32_intu8):=x.2.2.2.2.2.2.2.2.1
 let h8:(List S_A32_intu8):=x.2.2.2.2.2.2.2.2.2.1
 let h9:(List Bool):=x.2.2.2.2.2.2.2.2.2.2.1
 let h10:(List S_api_Payment):=x.2.2.2.2.2.2.2.2.2.2.2.1
 brn (@I.neb .u64 a.2.2.1 (I.of .u64 18446744073709551615))
  (optF (none) (ledger_Ledger_Transfer K ((a.1,(a.2.2.1,(a.2.2.2.1,()))),(h1,(h5,())))) fun y0 =>
  some (([],()),(h0,(y0.2.1,(h2,(h3,(h4,(y0.2.2.1,(h6,(h7,(h8,(h9,(h10,())))))))))))))
  (brn (Ty.eqb u256 a.2.2.2.1 Z_U)
   (some (([],()),(h0,(h1,(h2,(h3,(h4,(h5,(h6,(h7,(h8,(h9,(h10,())))))))))))))
   (optF (none) (ledger_Ledger_Withdraw K ((a.1,(a.2.2.2.1,())),(h1,(h5,())))) fun y0 =>
   optF (none) (executor_Machine_send K ((a.1,(a.2.2.2.1,())),(h0,(y0.2.1,(h2,(h3,(h4,(y0.2.2.1,(h6,(h7,(h8,(h9,(h10,()))))))))))))) fun y1 =>
   some (((y1.1.1 :: []),()),y1.2)))
noncomputable def executor_Machine_transaction (K:Nat) (x:(⟨[.ptr 0 [],.pl Y_api_Step],H_executor_Machine⟩:Tm).D):Option (⟨[.pl Y_api_Receipt,.pl (.int .i64)],H_executor_Machine⟩:Tm).D :=
 let a:S_api_Step:=x.1.1
 let h0:O_executor_Machine:=x.2.1
 let h1:O_ledger_Ledger:=x.2.2.1
 let h2:O_outbox_Outbox:=x.2.2.2.1
 let h3:O_merkle_Tree:=x.2.2.2.2.1
 let h4:O_escrow_Escrow:=x.2.2.2.2.2.1
 let h5:(List S_api_Account):=x.2.2.2.2.2.2.1
 let h6:(List S_api_Message):=x.2.2.2.2.2.2.2.1
 let h7:(List S_A32_intu8):=x.2.2.2.2.2.2.2.2.1
 let h8:(List S_A32_intu8):=x.2.2.2.2.2.2.2.2.2.1
 let h9:(List Bool):=x.2.2.2.2.2.2.2.2.2.2.1
 let h10:(List S_api_Payment):=x.2.2.2.2.2.2.2.2.2.2.2.1
 optF (none) (executor_Machine_checkTransaction K ((a.2.1,()),(h0,(h1,(h2,(h3,(h4,(h5,(h6,(h7,(h8,(h9,(h10,()))))))))))))) fun y0 =>
 brn (@I.neb .i64 y0.1.2.2.1 (I.of .i64 0))
  (some ((((I.of .i64 0),((I.of .i64 0),(Z_S_api_Charge,(Z_U,(Z_U,((I.of .u64 0),(Z_U,(Z_U,([],()))))))))),(y0.1.2.2.1,())),y0.2))
  (optF (none) (pricer_AddUnits K ((y0.2.1.2.2.2.2.1,(y0.1.2.1.1,())),())) fun y1 =>
  brn (@I.neb .i64 y1.1.2.1 (I.of .i64 0))
   (some ((((I.of .i64 0),((I.of .i64 0),(Z_S_api_Charge,(Z_U,(Z_U,((I.of .u64 0),(Z_U,(Z_U,([],()))))))))),(y1.1.2.1,())),y0.2))
   (optF (none) (block_UseGas K ((y0.2.1.2.2.1,(y0.1.2.1.2.2.2.1,(y0.2.1.2.1,()))),())) fun y2 =>
   brn (@I.neb .i64 y2.1.2.1 (I.of .i64 0))
    (some ((((I.of .i64 0),((I.of .i64 0),(Z_S_api_Charge,(Z_U,(Z_U,((I.of .u64 0),(Z_U,(Z_U,([],()))))))))),(y2.1.2.1,())),y0.2))
    (optF (none) (ledger_Ledger_PayVault K ((a.2.1.1,((I.of .i64 3),(y0.1.2.1.2.2.2.2.2.2.1,()))),(y0.2.2.1,(y0.2.2.2.2.2.2.1,())))) fun y3 =>
    optF (none) (ledger_Ledger_PayVault K ((a.2.1.1,((I.of .i64 2),(y0.1.2.1.2.2.2.2.2.2.2.1,()))),(y3.2.1,(y3.2.2.1,())))) fun y4 =>
    optF (none) (ledger_Ledger_PayVault K ((a.2.1.1,((I.of .i64 1),(y0.1.2.1.2.2.2.2.2.2.2.2.1,()))),(y4.2.1,(y4.2.2.1,())))) fun y5 =>
    optF (none) (ledger_Ledger_PayVault K ((a.2.1.1,((I.of .i64 4),(y0.1.2.1.2.2.2.2.2.2.2.2.2.1,()))),(y5.2.1,(y5.2.2.1,())))) fun y6 =>
    optF (none) (ledger_Ledger_IncrementNonce K ((a.2.1.1,()),(y6.2.1,(y6.2.2.1,())))) fun y7 =>
    optF (none) (backlog_Add K ((y0.2.1.2.2.2.1,(y0.1.2.1.2.2.1,())),())) fun y8 =>
    jn (fun (x9:((Bool × Unit) × (O_executor_Machine × (O_ledger_Ledger × ((List S_api_Account) × (O_outbox_Outbox × ((List S_api_Message) × (O_merkle_Tree × ((List S_A32_intu8) × (O_escrow_Escrow × ((List S_A32_intu8) × ((List Bool) × ((List S_api_Payment) × (((I .i64) × ((I .i64) × (S_api_Charge × (U × (U × ((I .u64) × (U × (U × O_merkle_Tree)))))))) × ((List S_api_Message) × (S_api_Transaction × (((I .i64) × ((I .i64) × (S_api_Charge × (U × (U × ((I .u64) × (U × (U × O_merkle_Tree)))))))) × ((List S_api_Message) × Unit)))))))))))))))))) =>
      brn x9.1.1
       (optF (none) (executor_Machine_transferValue K ((x9.2.2.2.2.2.2.2.2.2.2.2.2.2.2.1,()),(x9.2.1,(x9.2.2.1,(x9.2.2.2.2.1,(x9.2.2.2.2.2.2.1,(x9.2.2.2.2.2.2.2.2.1,(x9.2.2.2.1,(x9.2.2.2.2.2.1,(x9.2.2.2.2.2.2.2.1,(x9.2.2.2.2.2.2.2.2.2.1,(x9.2.2.2.2.2.2.2.2.2.2.1,(x9.2.2.2.2.2.2.2.2.2.2.2.1,()))))))))))))) fun y10 =>
       some (((x9.2.2.2.2.2.2.2.2.2.2.2.2.2.2.2.1.1,(x9.2.2.2.2.2.2.2.2.2.2.2.2.2.2.2.1.2.1,(x9.2.2.2.2.2.2.2.2.2.2.2.2.2.2.2.1.2.2.1,(x9.2.2.2.2.2.2.2.2.2.2.2.2.2.2.2.1.2.2.2.1,(x9.2.2.2.2.2.2.2.2.2.2.2.2.2.2.1.2.2.2.1,(x9.2.2.2.2.2.2.2.2.2.2.2.2.2.2.2.1.2.2.2.2.2.1,(x9.2.2.2.2.2.2.2.2.2.2.2.2.2.2.2.1.2.2.2.2.2.2.1,(x9.2.2.2.2.2.2.2.2.2.2.2.2.2.2.2.1.2.2.2.2.2.2.2.1,(y10.1.1,x9.2.2.2.2.2.2.2.2.2.2.2.2.2.2.2.1.2.2.2.2.2.2.2.2.2))))))))),((I.of .i64 0),())),y10.2))
       (some (((x9.2.2.2.2.2.2.2.2.2.2.2.2.2.2.2.1.1,(x9.2.2.2.2.2.2.2.2.2.2.2.2.2.2.2.1.2.1,(x9.2.2.2.2.2.2.2.2.2.2.2.2.2.2.2.1.2.2.1,(x9.2.2.2.2.2.2.2.2.2.2.2.2.2.2.2.1.2.2.2.1,(x9.2.2.2.2.2.2.2.2.2.2.2.2.2.2.2.1.2.2.2.2.1,(x9.2.2.2.2.2.2.2.2.2.2.2.2.2.2.2.1.2.2.2.2.2.1,(x9.2.2.2.2.2.2.2.2.2.2.2.2.2.2.2.1.2.2.2.2.2.2.1,(x9.2.2.2.2.2.2.2.2.2.2.2.2.2.2.2.1.2.2.2.2.2.2.2.1,(x9.2.2.2.2.2.2.2.2.2.2.2.2.2.2.2.2.1,x9.2.2.2.2.2.2.2.2.2.2.2.2.2.2.2.1.2.2.2.2.2.2.2.2.2))))))))),((I.of .i64 0),())),(x9.2.1,(x9.2.2.1,(x9.2.2.2.2.1,(x9.2.2.2.2.2.2.1,(x9.2.2.2.2.2.2.2.2.1,(x9.2.2.2.1,(x9.2.2.2.2.2.1,(x9.2.2.2.2.2.2.2.1,(x9.2.2.2.2.2.2.2.2.2.1,(x9.2.2.2.2.2.2.2.2.2.2.1,(x9.2.2.2.2.2.2.2.2.2.2.2.1,())))))))))))))) fun j9 =>
    brn (bnot y0.1.2.1.2.2.2.2.1)
     (j9 (((@I.neb .u64 a.2.1.2.2.1 a.2.1.1),()),((y0.2.1.1,(y0.2.1.2.1,(y2.1.1,(y8.1.1,(y1.1.1,y0.2.1.2.2.2.2.2))))),(y7.2.1,(y7.2.2.1,(y0.2.2.2.1,(y0.2.2.2.2.2.2.2.1,(y0.2.2.2.2.1,(y0.2.2.2.2.2.2.2.2.1,(y0.2.2.2.2.2.1,(y0.2.2.2.2.2.2.2.2.2.1,(y0.2.2.2.2.2.2.2.2.2.2.1,(y0.2.2.2.2.2.2.2.2.2.2.2.1,(((I.of .i64 0),((I.of .i64 0),(Z_S_api_Charge,(Z_U,(Z_U,((I.of .u64 0),(Z_U,(Z_U,((),()))))))))),([],(a.2.1,(((I.of .i64 0),((I.of .i64 0),(y0.1.2.1,(y0.1.1,(Z_U,((I.of .u64 0),(Z_U,(Z_U,((),()))))))))),([],()))))))))))))))))))
     (j9 ((false,()),((y0.2.1.1,(y0.2.1.2.1,(y2.1.1,(y8.1.1,(y1.1.1,y0.2.1.2.2.2.2.2))))),(y7.2.1,(y7.2.2.1,(y0.2.2.2.1,(y0.2.2.2.2.2.2.2.1,(y0.2.2.2.2.1,(y0.2.2.2.2.2.2.2.2.1,(y0.2.2.2.2.2.1,(y0.2.2.2.2.2.2.2.2.2.1,(y0.2.2.2.2.2.2.2.2.2.2.1,(y0.2.2.2.2.2.2.2.2.2.2.2.1,(((I.of .i64 0),((I.of .i64 0),(Z_S_api_Charge,(Z_U,(Z_U,((I.of .u64 0),(Z_U,(Z_U,((),()))))))))),([],(a.2.1,(((I.of .i64 0),((I.of .i64 0),(y0.1.2.1,(y0.1.1,(Z_U,((I.of .u64 0),(Z_U,(Z_U,((),()))))))))),([],())))))))))))))))))))))
noncomputable def ledger_Ledger_Vault (K:Nat) (x:(⟨[.bp Y_ledger_Ledger,.pl (.int .i64)],[]⟩:Tm).D):Option (⟨[.pl u256],[]⟩:Tm).D :=
 let a:S_ledger_Ledger:=x.1.1
 let b:(I .i64):=x.1.2.1
 optF (none) (ledger_isVault K ((b,()),())) fun y0 =>
 brn (bnot y0.1.1)
  (some ((Z_U,()),()))
  (brn (@inB .i64 (@I.sub .i64 b (I.of .i64 1)) 4)
   (some (((@Arr.sel U Z_U 4 a.2.1 (@I.nat .i64 (@I.sub .i64 b (I.of .i64 1)))),()),()))
   (none))
noncomputable def ledger_Ledger_WithdrawVault (K:Nat) (x:(⟨[.ptr 0 [],.pl (.int .i64),.pl u256],H_ledger_Ledger⟩:Tm).D):Option (⟨[.pl (.int .i64)],H_ledger_Ledger⟩:Tm).D :=
 let a:(I .i64):=x.1.1
 let b:U:=x.1.2.1
 let h0:O_ledger_Ledger:=x.2.1
 let h1:(List S_api_Account):=x.2.2.1
 optF (none) (ledger_isVault K ((a,()),())) fun y0 =>
 brn (bnot y0.1.1)
  (some (((I.of .i64 2),()),(h0,(h1,()))))
  (brn (@inB .i64 (@I.sub .i64 a (I.of .i64 1)) 4)
   (optF (none) (uint256_Sub (((@Arr.sel U Z_U 4 h0.2.1 (@I.nat .i64 (@I.sub .i64 a (I.of .i64 1)))),(b,())),())) fun y1 =>
   brn (@I.neb .i64 y1.1.2.1 (I.of .i64 0))
    (some (((I.of .i64 10),()),(h0,(h1,()))))
    (brn (@inB .i64 (@I.sub .i64 a (I.of .i64 1)) 4)
     (some (((I.of .i64 0),()),(((),((@Arr.upd U 4 h0.2.1 (@I.nat .i64 (@I.sub .i64 a (I.of .i64 1))) y1.1.1),h0.2.2)),(h1,()))))
     (none)))
   (none))
noncomputable def executor_Machine_report (K:Nat) (x:(⟨[.ptr 0 [],.pl Y_api_Step],H_executor_Machine⟩:Tm).D):Option (⟨[.pl Y_api_Receipt,.pl (.int .i64)],H_executor_Machine⟩:Tm).D :=
 let a:S_api_Step:=x.1.1
 let h0:O_executor_Machine:=x.2.1
 let h1:O_ledger_Ledger:=x.2.2.1
 let h2:O_outbox_Outbox:=x.2.2.2.1
 let h3:O_merkle_Tree:=x.2.2.2.2.1
 let h4:O_escrow_Escrow:=x.2.2.2.2.2.1
 let h5:(List S_api_Account):=x.2.2.2.2.2.2.1
 let h6:(List S_api_Message):=x.2.2.2.2.2.2.2.1
 let h7:(List S_A32_intu8):=x.2.2.2.2.2.2.2.2.1
 let h8:(List S_A32_intu8):=x.2.2.2.2.2.2.2.2.2.1
 let h9:(List Bool):=x.2.2.2.2.2.2.2.2.2.2.1
 let h10:(List S_api_Payment):=x.2.2.2.2.2.2.2.2.2.2.2.1
 optF (none) (ledger_Ledger_Vault K (((h5,h1.2),((I.of .i64 3),())),())) fun y0 =>
 optF (none) (pricer_Report K ((h0.2.2.2.2.1,(h0.2.1,(y0.1.1,(a.2.2.1,(h0.2.2.1.2.1,()))))),())) fun y1 =>
 brn (@I.neb .i64 y1.1.2.2.1 (I.of .i64 0))
  (some ((((I.of .i64 0),((I.of .i64 0),(Z_S_api_Charge,(Z_U,(Z_U,((I.of .u64 0),(Z_U,(Z_U,([],()))))))))),(y1.1.2.2.1,())),(h0,(h1,(h2,(h3,(h4,(h5,(h6,(h7,(h8,(h9,(h10,())))))))))))))
  (optF (none) (payout_Sum K ((y1.1.2.1.2.2.1,()),())) fun y2 =>
  brn (@I.neb .i64 y2.1.2.1 (I.of .i64 0))
   (some ((((I.of .i64 0),((I.of .i64 0),(Z_S_api_Charge,(Z_U,(Z_U,((I.of .u64 0),(Z_U,(Z_U,([],()))))))))),(y2.1.2.1,())),(h0,(h1,(h2,(h3,(h4,(h5,(h6,(h7,(h8,(h9,(h10,())))))))))))))
   (iter (none) (fun (x3:(((List S_api_Payment) × ((I .i64) × ((I .i64) × Unit))) × (O_executor_Machine × (O_ledger_Ledger × ((List S_api_Account) × (O_outbox_Outbox × ((List S_api_Message) × (O_merkle_Tree × ((List S_A32_intu8) × (O_escrow_Escrow × ((List S_A32_intu8) × ((List Bool) × ((List S_api_Payment) × (((I .i64) × ((I .i64) × (S_api_Charge × (U × (U × ((I .u64) × (U × (U × O_merkle_Tree)))))))) × ((List S_api_Message) × (((I .i64) × ((I .i64) × (S_api_Charge × (U × (U × ((I .u64) × (U × (U × O_merkle_Tree)))))))) × ((List S_api_Message) × Unit))))))))))))))))) =>
     brn (@I.ltb .i64 x3.1.2.2.1 x3.1.2.1)
      (brn (@inB .i64 x3.1.2.2.1 (@lenL S_api_Payment x3.1.1))
       (optF (.done (none)) (ledger_Ledger_WithdrawVault K (((I.of .i64 3),((@rdL S_api_Payment Z_S_api_Payment x3.1.1 (@I.nat .i64 x3.1.2.2.1)).2.1,())),(x3.2.2.1,(x3.2.2.2.1,())))) fun y4 =>
       optF (.done (none)) (executor_Machine_send K (((@rdL S_api_Payment Z_S_api_Payment x3.1.1 (@I.nat .i64 x3.1.2.2.1)).1,((@rdL S_api_Payment Z_S_api_Payment x3.1.1 (@I.nat .i64 x3.1.2.2.1)).2.1,())),(x3.2.1,(y4.2.1,(x3.2.2.2.2.1,(x3.2.2.2.2.2.2.1,(x3.2.2.2.2.2.2.2.2.1,(y4.2.2.1,(x3.2.2.2.2.2.1,(x3.2.2.2.2.2.2.2.1,(x3.2.2.2.2.2.2.2.2.2.1,(x3.2.2.2.2.2.2.2.2.2.2.1,(x3.2.2.2.2.2.2.2.2.2.2.2.1,()))))))))))))) fun y5 =>
       brn (fitsLen (@lenL S_api_Message (@appL S_api_Message x3.2.2.2.2.2.2.2.2.2.2.2.2.2.2.2.1 (y5.1.1 :: []))))
        (.again ((x3.1.1,(x3.1.2.1,((@I.add .i64 x3.1.2.2.1 (I.of .i64 1)),()))),(y5.2.1,(y5.2.2.1,(y5.2.2.2.2.2.2.1,(y5.2.2.2.1,(y5.2.2.2.2.2.2.2.1,(y5.2.2.2.2.1,(y5.2.2.2.2.2.2.2.2.1,(y5.2.2.2.2.2.1,(y5.2.2.2.2.2.2.2.2.2.1,(y5.2.2.2.2.2.2.2.2.2.2.1,(y5.2.2.2.2.2.2.2.2.2.2.2.1,(x3.2.2.2.2.2.2.2.2.2.2.2.2.1,(x3.2.2.2.2.2.2.2.2.2.2.2.2.2.1,(x3.2.2.2.2.2.2.2.2.2.2.2.2.2.2.1,((@appL S_api_Message x3.2.2.2.2.2.2.2.2.2.2.2.2.2.2.2.1 (y5.1.1 :: [])),())))))))))))))))))
        (.done (none)))
       (.done (none)))
      (.done (some (((x3.2.2.2.2.2.2.2.2.2.2.2.2.2.2.1.1,(x3.2.2.2.2.2.2.2.2.2.2.2.2.2.2.1.2.1,(x3.2.2.2.2.2.2.2.2.2.2.2.2.2.2.1.2.2.1,(x3.2.2.2.2.2.2.2.2.2.2.2.2.2.2.1.2.2.2.1,(x3.2.2.2.2.2.2.2.2.2.2.2.2.2.2.1.2.2.2.2.1,(x3.2.2.2.2.2.2.2.2.2.2.2.2.2.2.1.2.2.2.2.2.1,(x3.2.2.2.2.2.2.2.2.2.2.2.2.2.2.1.2.2.2.2.2.2.1,(x3.2.2.2.2.2.2.2.2.2.2.2.2.2.2.1.2.2.2.2.2.2.2.1,(x3.2.2.2.2.2.2.2.2.2.2.2.2.2.2.2.1,x3.2.2.2.2.2.2.2.2.2.2.2.2.2.2.1.2.2.2.2.2.2.2.2.2))))))))),((I.of .i64 0),())),(x3.2.1,(x3.2.2.1,(x3.2.2.2.2.1,(x3.2.2.2.2.2.2.1,(x3.2.2.2.2.2.2.2.2.1,(x3.2.2.2.1,(x3.2.2.2.2.2.1,(x3.2.2.2.2.2.2.2.1,(x3.2.2.2.2.2.2.2.2.2.1,(x3.2.2.2.2.2.2.2.2.2.2.1,(x3.2.2.2.2.2.2.2.2.2.2.2.1,())))))))))))))))
   K ((y1.1.2.1.2.2.1,((I.ofNat .i64 (@lenL S_api_Payment y1.1.2.1.2.2.1)),((I.of .i64 0),()))),((h0.1,(h0.2.1,(h0.2.2.1,(h0.2.2.2.1,(y1.1.1,h0.2.2.2.2.2))))),(h1,(h5,(h2,(h6,(h3,(h7,(h4,(h8,(h9,(h10,(((I.of .i64 0),((I.of .i64 0),(Z_S_api_Charge,(Z_U,(Z_U,((I.of .u64 0),(Z_U,(Z_U,((),()))))))))),([],(((I.of .i64 0),((I.of .i64 0),(Z_S_api_Charge,(Z_U,(Z_U,(y1.1.2.1.1,(y1.1.2.1.2.1,(y2.1.1,((),()))))))))),([],()))))))))))))))))))
noncomputable def block_Next (K:Nat) (x:(⟨[.pl Y_api_Block,.pl (.int .u64),.pl (.int .u64),.pl Y_api_Params],[]⟩:Tm).D):Option (⟨[.pl Y_api_Block,.pl (.int .i64)],[]⟩:Tm).D :=
 let a:S_api_Block:=x.1.1
 let b:(I .u64):=x.1.2.1
 let c:(I .u64):=x.1.2.2.1
 let d:S_api_Params:=x.1.2.2.2.1
 optF (none) (add64F ((a.1,((I.of .u64 1),((I.of .u64 0),()))),())) fun y0 =>
 optF (none) (add64F ((a.2.1,(b,((I.of .u64 0),()))),())) fun y1 =>
 jn (fun (x2:(((I .u64) × ((I .u64) × ((I .u64) × Unit))) × (S_api_Params × (S_api_Block × Unit)))) =>
   optF (none) (basefee_Fee K ((x2.1.1,(x2.2.1,())),())) fun y3 =>
   brn (@I.neb .i64 y3.1.2.1 (I.of .i64 0))
    (some ((Z_S_api_Block,(y3.1.2.1,())),()))
    (some (((x2.1.2.1,(x2.1.2.2.1,((I.of .u64 0),(y3.1.1,())))),((I.of .i64 0),())),()))) fun j2 =>
 jn (fun (x3:(((I .u64) × ((I .u64) × ((I .u64) × ((I .u64) × ((I .u64) × (Bool × Unit)))))) × (S_api_Params × (S_api_Block × Unit)))) =>
   brn x3.1.2.2.2.2.2.1
    (some ((Z_S_api_Block,((I.of .i64 2),())),()))
    (optF (none) (params_Valid K ((x3.2.1,()),())) fun y4 =>
    brn (bnot y4.1.1)
     (some ((Z_S_api_Block,((I.of .i64 15),())),()))
     (brn (@I.neb .u64 x3.1.2.2.1 (I.of .u64 0))
      (some ((Z_S_api_Block,((I.of .i64 4),())),()))
      (brn (@I.neb .u64 x3.1.2.2.2.2.1 (I.of .u64 0))
       (some ((Z_S_api_Block,((I.of .i64 4),())),()))
       (j2 ((x3.1.1,(x3.1.2.1,(x3.1.2.2.2.1,()))),(x3.2.1,(x3.2.2.1,())))))))) fun j3 =>
 brn (@I.ltb .u64 b (I.of .u64 1))
  (j3 ((c,(y0.1.1,(y0.1.2.1,(y1.1.1,(y1.1.2.1,(true,())))))),(d,(Z_S_api_Block,()))))
  (j3 ((c,(y0.1.1,(y0.1.2.1,(y1.1.1,(y1.1.2.1,((@I.ltb .u64 (I.of .u64 1048576) b),())))))),(d,(Z_S_api_Block,()))))
noncomputable def executor_Machine_tick (K:Nat) (x:(⟨[.ptr 0 [],.pl Y_api_Step],H_executor_Machine⟩:Tm).D):Option (⟨[.pl Y_api_Receipt,.pl (.int .i64)],H_executor_Machine⟩:Tm).D :=
 let a:S_api_Step:=x.1.1
 let h0:O_executor_Machine:=x.2.1
 let h1:O_ledger_Ledger:=x.2.2.1
 let h2:O_outbox_Outbox:=x.2.2.2.1
 let h3:O_merkle_Tree:=x.2.2.2.2.1
 let h4:O_escrow_Escrow:=x.2.2.2.2.2.1
 let h5:(List S_api_Account):=x.2.2.2.2.2.2.1
 let h6:(List S_api_Message):=x.2.2.2.2.2.2.2.1
 let h7:(List S_A32_intu8):=x.2.2.2.2.2.2.2.2.1
 let h8:(List S_A32_intu8):=x.2.2.2.2.2.2.2.2.2.1
 let h9:(List Bool):=x.2.2.2.2.2.2.2.2.2.2.1
 let h10:(List S_api_Payment):=x.2.2.2.2.2.2.2.2.2.2.2.1
 optF (none) (backlog_Drain K ((h0.2.2.2.1,(h0.2.1.1,(a.2.2.2.1,()))),())) fun y0 =>
 optF (none) (block_Next K ((h0.2.2.1,(a.2.2.2.1,(y0.1.1,(h0.2.1,())))),())) fun y1 =>
 brn (@I.neb .i64 y1.1.2.1 (I.of .i64 0))
  (some ((((I.of .i64 0),((I.of .i64 0),(Z_S_api_Charge,(Z_U,(Z_U,((I.of .u64 0),(Z_U,(Z_U,([],()))))))))),(y1.1.2.1,())),(h0,(h1,(h2,(h3,(h4,(h5,(h6,(h7,(h8,(h9,(h10,())))))))))))))
  (some ((((I.of .i64 0),((I.of .i64 0),(Z_S_api_Charge,(Z_U,(Z_U,((I.of .u64 0),(Z_U,(Z_U,([],()))))))))),((I.of .i64 0),())),((h0.1,(h0.2.1,(y1.1.1,(y0.1.1,h0.2.2.2.2)))),(h1,(h2,(h3,(h4,(h5,(h6,(h7,(h8,(h9,(h10,())))))))))))))
noncomputable def params_uint256Field (K:Nat) (x:(⟨[.pl .opq,.pl (.int .i64)],[]⟩:Tm).D):Option (⟨[.pl .opq],[]⟩:Tm).D :=
 let b:(I .i64):=x.1.2.1
 brn (@I.eqb .i64 b (I.of .i64 4))
  (none)
  (brn (@I.eqb .i64 b (I.of .i64 6))
   (none)
   (brn (@I.eqb .i64 b (I.of .i64 8))
    (none)
    (none)))
noncomputable def params_uint64Field (K:Nat) (x:(⟨[.pl .opq,.pl (.int .i64)],[]⟩:Tm).D):Option (⟨[.pl .opq],[]⟩:Tm).D :=
 let b:(I .i64):=x.1.2.1
 brn (@I.eqb .i64 b (I.of .i64 1))
  (none)
  (brn (@I.eqb .i64 b (I.of .i64 2))
   (none)
   (brn (@I.eqb .i64 b (I.of .i64 3))
    (none)
    (brn (@I.eqb .i64 b (I.of .i64 5))
     (none)
     (brn (@I.eqb .i64 b (I.of .i64 7))
      (none)
      (brn (@I.eqb .i64 b (I.of .i64 9))
       (none)
       (brn (@I.eqb .i64 b (I.of .i64 10))
        (none)
        (brn (@I.eqb .i64 b (I.of .i64 11))
         (none)
         (brn (@I.eqb .i64 b (I.of .i64 12))
          (none)
          (none)))))))))
noncomputable def params_Set (K:Nat) (x:(⟨[.pl Y_api_Params,.pl (.int .i64),.pl u256],[]⟩:Tm).D):Option (⟨[.pl Y_api_Params,.pl (.int .i64)],[]⟩:Tm).D :=
 let c:U:=x.1.2.2.1
 optF (none) (uint256_Uint64 K ((c,()),())) fun y0 =>
 none
noncomputable def executor_Machine_setParam (K:Nat) (x:(⟨[.ptr 0 [],.pl Y_api_Step],H_executor_Machine⟩:Tm).D):Option (⟨[.pl Y_api_Receipt,.pl (.int .i64)],H_executor_Machine⟩:Tm).D :=
 let a:S_api_Step:=x.1.1
 let h0:O_executor_Machine:=x.2.1
 let h1:O_ledger_Ledger:=x.2.2.1
 let h2:O_outbox_Outbox:=x.2.2.2.1
 let h3:O_merkle_Tree:=x.2.2.2.2.1
 let h4:O_escrow_Escrow:=x.2.2.2.2.2.1
 let h5:(List S_api_Account):=x.2.2.2.2.2.2.1
 let h6:(List S_api_Message):=x.2.2.2.2.2.2.2.1
 let h7:(List S_A32_intu8):=x.2.2.2.2.2.2.2.2.1
 let h8:(List S_A32_intu8):=x.2.2.2.2.2.2.2.2.2.1
 let h9:(List Bool):=x.2.2.2.2.2.2.2.2.2.2.1
 let h10:(List S_api_Payment):=x.2.2.2.2.2.2.2.2.2.2.2.1
 optF (none) (params_Set K ((h0.2.1,(a.2.2.2.2.1,(a.2.2.2.2.2.1,()))),())) fun y0 =>
 brn (@I.neb .i64 y0.1.2.1 (I.of .i64 0))
  (some ((((I.of .i64 0),((I.of .i64 0),(Z_S_api_Charge,(Z_U,(Z_U,((I.of .u64 0),(Z_U,(Z_U,([],()))))))))),(y0.1.2.1,())),(h0,(h1,(h2,(h3,(h4,(h5,(h6,(h7,(h8,(h9,(h10,())))))))))))))
  (some ((((I.of .i64 0),((I.of .i64 0),(Z_S_api_Charge,(Z_U,(Z_U,((I.of .u64 0),(Z_U,(Z_U,([],()))))))))),((I.of .i64 0),())),((h0.1,(y0.1.1,h0.2.2)),(h1,(h2,(h3,(h4,(h5,(h6,(h7,(h8,(h9,(h10,())))))))))))))
noncomputable def executor_Machine_addPoster (K:Nat) (x:(⟨[.ptr 0 [],.pl Y_api_Step],H_executor_Machine⟩:Tm).D):Option (⟨[.pl Y_api_Receipt,.pl (.int .i64)],H_executor_Machine⟩:Tm).D :=
 let a:S_api_Step:=x.1.1
 let h0:O_executor_Machine:=x.2.1
 let h1:O_ledger_Ledger:=x.2.2.1
 let h2:O_outbox_Outbox:=x.2.2.2.1
 let h3:O_merkle_Tree:=x.2.2.2.2.1
 let h4:O_escrow_Escrow:=x.2.2.2.2.2.1
 let h5:(List S_api_Account):=x.2.2.2.2.2.2.1
 let h6:(List S_api_Message):=x.2.2.2.2.2.2.2.1
 let h7:(List S_A32_intu8):=x.2.2.2.2.2.2.2.2.1
 let h8:(List S_A32_intu8):=x.2.2.2.2.2.2.2.2.2.1
 let h9:(List Bool):=x.2.2.2.2.2.2.2.2.2.2.1
 let h10:(List S_api_Payment):=x.2.2.2.2.2.2.2.2.2.2.2.1
 optF (none) (pricer_AddPoster K ((h0.2.2.2.2.1,(a.2.2.2.2.2.2.1,())),())) fun y0 =>
 brn (@I.neb .i64 y0.1.2.1 (I.of .i64 0))
  (some ((((I.of .i64 0),((I.of .i64 0),(Z_S_api_Charge,(Z_U,(Z_U,((I.of .u64 0),(Z_U,(Z_U,([],()))))))))),(y0.1.2.1,())),(h0,(h1,(h2,(h3,(h4,(h5,(h6,(h7,(h8,(h9,(h10,())))))))))))))
  (some ((((I.of .i64 0),((I.of .i64 0),(Z_S_api_Charge,(Z_U,(Z_U,((I.of .u64 0),(Z_U,(Z_U,([],()))))))))),((I.of .i64 0),())),((h0.1,(h0.2.1,(h0.2.2.1,(h0.2.2.2.1,(y0.1.1,h0.2.2.2.2.2))))),(h1,(h2,(h3,(h4,(h5,(h6,(h7,(h8,(h9,(h10,())))))))))))))
noncomputable def ledger_Ledger_Supply (K:Nat) (x:(⟨[.bp Y_ledger_Ledger],[]⟩:Tm).D):Option (⟨[.pl u256],[]⟩:Tm).D :=
 let a:S_ledger_Ledger:=x.1.1
 iter (none) (fun x0 =>
   brn (@I.ltb .i64 x0.1.2.2.2.1 x0.1.2.2.1)
    (brn (@inB .i64 x0.1.2.2.2.1 (@lenL S_api_Account x0.1.2.1))
     (optF (.done (none)) (uint256_SaturatingAdd K ((x0.2.2.1,((@rdL S_api_Account Z_S_api_Account x0.1.2.1 (@I.nat .i64 x0.1.2.2.2.1)).2.1,())),())) fun y1 =>
     .again ((x0.1.1,(x0.1.2.1,(x0.1.2.2.1,((@I.add .i64 x0.1.2.2.2.1 (I.of .i64 1)),())))),(x0.2.1,(y1.1.1,()))))
     (.done (none)))
    (.done (iter (none) (fun x1 =>
      brn (@I.ltb .i64 x1.1.2.1 (I.of .i64 4))
       (brn (@inB .i64 x1.1.2.1 4)
        (optF (.done (none)) (uint256_SaturatingAdd K ((x1.2.2.1,((@Arr.sel U Z_U 4 x1.1.1 (@I.nat .i64 x1.1.2.1)),())),())) fun y2 =>
        .again ((x1.1.1,((@I.add .i64 x1.1.2.1 (I.of .i64 1)),())),(x1.2.1,(y2.1.1,()))))
        (.done (none)))
       (.done (some ((x1.2.2.1,()),()))))
    K ((x0.1.1.2.1,((I.of .i64 0),())),(x0.2.1,(x0.2.2.1,()))))))
 K ((a,(a.1,((I.ofNat .i64 (@lenL S_api_Account a.1)),((I.of .i64 0),())))),(Z_U,(Z_U,())))
noncomputable def escrow_Escrow_Deposit (K:Nat) (x:(⟨[.ptr 0 [],.pl u256],H_escrow_Escrow⟩:Tm).D):Option (⟨[.pl (.int .i64)],H_escrow_Escrow⟩:Tm).D :=
 let a:U:=x.1.1
 let h0:O_escrow_Escrow:=x.2.1
 let h1:(List S_A32_intu8):=x.2.2.1
 let h2:(List Bool):=x.2.2.2.1
 let h3:(List S_api_Payment):=x.2.2.2.2.1
 brn (Ty.eqb u256 a Z_U)
  (some (((I.of .i64 2),()),(h0,(h1,(h2,(h3,()))))))
  (optF (none) (uint256_Add ((h0.2.2.1,(a,())),())) fun y0 =>
  brn (@I.neb .i64 y0.1.2.1 (I.of .i64 0))
   (some ((y0.1.2.1,()),(h0,(h1,(h2,(h3,()))))))
   (some (((I.of .i64 0),()),(((),((),(y0.1.1,h0.2.2.2))),(h1,(h2,(h3,())))))))
noncomputable def ledger_Ledger_Mint (K:Nat) (x:(⟨[.ptr 0 [],.pl (.int .u64),.pl u256],H_ledger_Ledger⟩:Tm).D):Option (⟨[.pl (.int .i64)],H_ledger_Ledger⟩:Tm).D :=
 let a:(I .u64):=x.1.1
 let b:U:=x.1.2.1
 let h0:O_ledger_Ledger:=x.2.1
 let h1:(List S_api_Account):=x.2.2.1
 brn (@I.eqb .u64 a (I.of .u64 0))
  (some (((I.of .i64 2),()),(h0,(h1,()))))
  (optF (none) (ledger_Ledger_Supply K (((h1,h0.2),()),())) fun y0 =>
  optF (none) (uint256_Add ((y0.1.1,(b,())),())) fun y1 =>
  brn (@I.neb .i64 y1.1.2.1 (I.of .i64 0))
   (some ((y1.1.2.1,()),(h0,(h1,()))))
   (optF (none) (ledger_Ledger_credit K ((a,(b,())),(h0,(h1,())))) fun y2 =>
   some (((I.of .i64 0),()),(y2.2.1,(y2.2.2.1,())))))
noncomputable def executor_Machine_deposit (K:Nat) (x:(⟨[.ptr 0 [],.pl Y_api_Step],H_executor_Machine⟩:Tm).D):Option (⟨[.pl Y_api_Receipt,.pl (.int .i64)],H_executor_Machine⟩:Tm).D :=
 let a:S_api_Step:=x.1.1
 let h0:O_executor_Machine:=x.2.1
 let h1:O_ledger_Ledger:=x.2.2.1
 let h2:O_outbox_Outbox:=x.2.2.2.1
 let h3:O_merkle_Tree:=x.2.2.2.2.1
 let h4:O_escrow_Escrow:=x.2.2.2.2.2.1
 let h5:(List S_api_Account):=x.2.2.2.2.2.2.1
 let h6:(List S_api_Message):=x.2.2.2.2.2.2.2.1
 let h7:(List S_A32_intu8):=x.2.2.2.2.2.2.2.2.1
 let h8:(List S_A32_intu8):=x.2.2.2.2.2.2.2.2.2.1
 let h9:(List Bool):=x.2.2.2.2.2.2.2.2.2.2.1
 let h10:(List S_api_Payment):=x.2.2.2.2.2.2.2.2.2.2.2.1
 jn (fun (x0:(Unit × (O_executor_Machine × (O_ledger_Ledger × ((List S_api_Account) × (O_outbox_Outbox × ((List S_api_Message) × (O_merkle_Tree × ((List S_A32_intu8) × (O_escrow_Escrow × ((List S_A32_intu8) × ((List Bool) × ((List S_api_Payment) × (S_api_Step × (((I .i64) × ((I .i64) × (S_api_Charge × (U × (U × ((I .u64) × (U × (U × O_merkle_Tree)))))))) × ((List S_api_Message) × Unit)))))))))))))))) =>
   optF (none) (escrow_Escrow_Balance K (((x0.2.2.2.2.2.2.2.2.2.1,(x0.2.2.2.2.2.2.2.2.2.2.1,(x0.2.2.2.2.2.2.2.2.1.2.2.1,(x0.2.2.2.2.2.2.2.2.2.2.2.1,x0.2.2.2.2.2.2.2.2.1.2.2.2.2)))),()),())) fun y1 =>
   optF (none) (uint256_Add ((y1.1.1,(x0.2.2.2.2.2.2.2.2.2.2.2.2.1.2.2.2.2.2.1,())),())) fun y2 =>
   optF (none) (ledger_Ledger_Supply K (((x0.2.2.2.1,x0.2.2.1.2),()),())) fun y3 =>
   optF (none) (uint256_Add ((y3.1.1,(x0.2.2.2.2.2.2.2.2.2.2.2.2.1.2.2.2.2.2.1,())),())) fun y4 =>
   jn (fun (x5:(Unit × (O_executor_Machine × (O_ledger_Ledger × ((List S_api_Account) × (O_outbox_Outbox × ((List S_api_Message) × (O_merkle_Tree × ((List S_A32_intu8) × (O_escrow_Escrow × ((List S_A32_intu8) × ((List Bool) × ((List S_api_Payment) × (S_api_Step × (((I .i64) × ((I .i64) × (S_api_Charge × (U × (U × ((I .u64) × (U × (U × O_merkle_Tree)))))))) × ((List S_api_Message) × Unit)))))))))))))))) =>
     optF (none) (escrow_Escrow_Deposit K ((x5.2.2.2.2.2.2.2.2.2.2.2.2.1.2.2.2.2.2.1,()),(x5.2.2.2.2.2.2.2.2.1,(x5.2.2.2.2.2.2.2.2.2.1,(x5.2.2.2.2.2.2.2.2.2.2.1,(x5.2.2.2.2.2.2.2.2.2.2.2.1,())))))) fun y6 =>
     optF (none) (ledger_Ledger_Mint K ((x5.2.2.2.2.2.2.2.2.2.2.2.2.1.2.2.2.2.2.2.1,(x5.2.2.2.2.2.2.2.2.2.2.2.2.1.2.2.2.2.2.1,())),(x5.2.2.1,(x5.2.2.2.1,())))) fun y7 =>
     some ((((I.of .i64 0),((I.of .i64 0),(Z_S_api_Charge,(Z_U,(Z_U,((I.of .u64 0),(Z_U,(Z_U,([],()))))))))),((I.of .i64 0),())),(x5.2.1,(y7.2.1,(x5.2.2.2.2.1,(x5.2.2.2.2.2.2.1,(y6.2.1,(y7.2.2.1,(x5.2.2.2.2.2.1,(x5.2.2.2.2.2.2.2.1,(y6.2.2.1,(y6.2.2.2.1,(y6.2.2.2.2.1,()))))))))))))) fun j5 =>
   brn (@I.neb .i64 y2.1.2.1 (I.of .i64 0))
    (some ((((I.of .i64 0),((I.of .i64 0),(Z_S_api_Charge,(Z_U,(Z_U,((I.of .u64 0),(Z_U,(Z_U,([],()))))))))),((I.of .i64 4),())),(x0.2.1,(x0.2.2.1,(x0.2.2.2.2.1,(x0.2.2.2.2.2.2.1,(x0.2.2.2.2.2.2.2.2.1,(x0.2.2.2.1,(x0.2.2.2.2.2.1,(x0.2.2.2.2.2.2.2.1,(x0.2.2.2.2.2.2.2.2.2.1,(x0.2.2.2.2.2.2.2.2.2.2.1,(x0.2.2.2.2.2.2.2.2.2.2.2.1,())))))))))))))
    (brn (@I.neb .i64 y4.1.2.1 (I.of .i64 0))
     (some ((((I.of .i64 0),((I.of .i64 0),(Z_S_api_Charge,(Z_U,(Z_U,((I.of .u64 0),(Z_U,(Z_U,([],()))))))))),((I.of .i64 4),())),(x0.2.1,(x0.2.2.1,(x0.2.2.2.2.1,(x0.2.2.2.2.2.2.1,(x0.2.2.2.2.2.2.2.2.1,(x0.2.2.2.1,(x0.2.2.2.2.2.1,(x0.2.2.2.2.2.2.2.1,(x0.2.2.2.2.2.2.2.2.2.1,(x0.2.2.2.2.2.2.2.2.2.2.1,(x0.2.2.2.2.2.2.2.2.2.2.2.1,())))))))))))))
     (j5 ((),(x0.2.1,(x0.2.2.1,(x0.2.2.2.1,(x0.2.2.2.2.1,(x0.2.2.2.2.2.1,(x0.2.2.2.2.2.2.1,(x0.2.2.2.2.2.2.2.1,(x0.2.2.2.2.2.2.2.2.1,(x0.2.2.2.2.2.2.2.2.2.1,(x0.2.2.2.2.2.2.2.2.2.2.1,(x0.2.2.2.2.2.2.2.2.2.2.2.1,(x0.2.2.2.2.2.2.2.2.2.2.2.2.1,(x0.2.2.2.2.2.2.2.2.2.2.2.2.2.1,(x0.2.2.2.2.2.2.2.2.2.2.2.2.2.2.1,())))))))))))))))))) fun j0 =>
 brn (@I.eqb .u64 a.2.2.2.2.2.2.1 (I.of .u64 0))
  (some ((((I.of .i64 0),((I.of .i64 0),(Z_S_api_Charge,(Z_U,(Z_U,((I.of .u64 0),(Z_U,(Z_U,([],()))))))))),((I.of .i64 2),())),(h0,(h1,(h2,(h3,(h4,(h5,(h6,(h7,(h8,(h9,(h10,())))))))))))))
  (brn (@I.eqb .u64 a.2.2.2.2.2.2.1 (I.of .u64 18446744073709551615))
   (some ((((I.of .i64 0),((I.of .i64 0),(Z_S_api_Charge,(Z_U,(Z_U,((I.of .u64 0),(Z_U,(Z_U,([],()))))))))),((I.of .i64 2),())),(h0,(h1,(h2,(h3,(h4,(h5,(h6,(h7,(h8,(h9,(h10,())))))))))))))
   (brn (Ty.eqb u256 a.2.2.2.2.2.1 Z_U)
    (some ((((I.of .i64 0),((I.of .i64 0),(Z_S_api_Charge,(Z_U,(Z_U,((I.of .u64 0),(Z_U,(Z_U,([],()))))))))),((I.of .i64 2),())),(h0,(h1,(h2,(h3,(h4,(h5,(h6,(h7,(h8,(h9,(h10,())))))))))))))
    (j0 ((),(h0,(h1,(h5,(h2,(h6,(h3,(h7,(h4,(h8,(h9,(h10,(a,(((I.of .i64 0),((I.of .i64 0),(Z_S_api_Charge,(Z_U,(Z_U,((I.of .u64 0),(Z_U,(Z_U,((),()))))))))),([],()))))))))))))))))))
noncomputable def merkle_rootFrom_stp (K:Nat) (r0:(⟨[.pl (.int .i64),.pl (.int .i64),.pl (.arr 32 (.int .u8)),.pl (.sl (.arr 32 (.int .u8)))],[]⟩:Tm).D→Option (⟨[.pl (.arr 32 (.int .u8)),.pl .bool],[]⟩:Tm).D) (x:(⟨[.pl (.int .i64),.pl (.int .i64),.pl (.arr 32 (.int .u8)),.pl (.sl (.arr 32 (.int .u8)))],[]⟩:Tm).D):Option (⟨[.pl (.arr 32 (.int .u8)),.pl .bool],[]⟩:Tm).D :=
 let a:(I .i64):=x.1.1
 let b:(I .i64):=x.1.2.1
 let c:S_A32_intu8:=x.1.2.2.1
 let d:(List S_A32_intu8):=x.1.2.2.2.1
 brn (@I.eqb .i64 a (I.of .i64 1))
  (some ((c,((@I.eqb .i64 (I.ofNat .i64 (@lenL S_A32_intu8 d)) (I.of .i64 0)),())),()))
  (brn (@I.eqb .i64 (I.ofNat .i64 (@lenL S_A32_intu8 d)) (I.of .i64 0))
   (some ((Z_S_A32_intu8,(false,())),()))
   (optF (none) (merkle_splitPoint K ((a,()),())) fun y0 =>
   brn (@inB .i64 (@I.sub .i64 (I.ofNat .i64 (@lenL S_A32_intu8 d)) (I.of .i64 1)) (@lenL S_A32_intu8 d))
    (brn (@inB' .i64 (@I.sub .i64 (I.ofNat .i64 (@lenL S_A32_intu8 d)) (I.of .i64 1)) (@lenL S_A32_intu8 d))
     (brn (@I.ltb .i64 b y0.1.1)
      (optF (none) (r0 ((y0.1.1,(b,(c,((@subL S_A32_intu8 d 0 (@I.nat .i64 (@I.sub .i64 (I.ofNat .i64 (@lenL S_A32_intu8 d)) (I.of .i64 1)))),())))),())) fun y1 =>
      optF (none) (hash_Node K ((y1.1.1,((@rdL S_A32_intu8 Z_S_A32_intu8 d (@I.nat .i64 (@I.sub .i64 (I.ofNat .i64 (@lenL S_A32_intu8 d)) (I.of .i64 1)))),())),())) fun y2 =>
      some ((y2.1.1,(y1.1.2.1,())),()))
      (optF (none) (r0 (((@I.sub .i64 a y0.1.1),((@I.sub .i64 b y0.1.1),(c,((@subL S_A32_intu8 d 0 (@I.nat .i64 (@I.sub .i64 (I.ofNat .i64 (@lenL S_A32_intu8 d)) (I.of .i64 1)))),())))),())) fun y1 =>
      optF (none) (hash_Node K (((@rdL S_A32_intu8 Z_S_A32_intu8 d (@I.nat .i64 (@I.sub .i64 (I.ofNat .i64 (@lenL S_A32_intu8 d)) (I.of .i64 1)))),(y1.1.1,())),())) fun y2 =>
      some ((y2.1.1,(y1.1.2.1,())),())))
     (none))
    (none)))
noncomputable def merkle_rootFrom_rec (K:Nat):Nat→(⟨[.pl (.int .i64),.pl (.int .i64),.pl (.arr 32 (.int .u8)),.pl (.sl (.arr 32 (.int .u8)))],[]⟩:Tm).D→Option (⟨[.pl (.arr 32 (.int .u8)),.pl .bool],[]⟩:Tm).D
 | 0,_=>none
 | k0 + 1,x=>merkle_rootFrom_stp K (merkle_rootFrom_rec K k0) x
noncomputable def merkle_rootFrom (K:Nat) (x:(⟨[.pl (.int .i64),.pl (.int .i64),.pl (.arr 32 (.int .u8)),.pl (.sl (.arr 32 (.int .u8)))],[]⟩:Tm).D):Option (⟨[.pl (.arr 32 (.int .u8)),.pl .bool],[]⟩:Tm).D:=merkle_rootFrom_rec K K x
noncomputable def merkle_Verify (K:Nat) (x:(⟨[.pl (.arr 32 (.int .u8)),.pl (.int .i64),.pl (.int .i64),.pl (.arr 32 (.int .u8)),.pl (.sl (.arr 32 (.int .u8)))],[]⟩:Tm).D):Option (⟨[.pl .bool],[]⟩:Tm).D :=
 let a:S_A32_intu8:=x.1.1
 let b:(I .i64):=x.1.2.1
 let c:(I .i64):=x.1.2.2.1
 let d:S_A32_intu8:=x.1.2.2.2.1
 let e:(List S_A32_intu8):=x.1.2.2.2.2.1
 jn (fun (x0:(((I .i64) × ((I .i64) × ((List S_A32_intu8) × Unit))) × (S_A32_intu8 × (S_A32_intu8 × Unit)))) =>
   optF (none) (merkle_rootFrom K ((x0.1.1,(x0.1.2.1,(x0.2.2.1,(x0.1.2.2.1,())))),())) fun y1 =>
   brn y1.1.2.1
    (some (((Ty.eqb (.arr 32 (.int .u8)) y1.1.1 x0.2.1),()),()))
    (some ((false,()),()))) fun j0 =>
 brn (@I.ltb .i64 c (I.of .i64 0))
  (some ((false,()),()))
  (brn (@I.leb .i64 b c)
   (some ((false,()),()))
   (j0 ((b,(c,(e,()))),(a,(d,())))))
noncomputable def escrow_Escrow_checkClaim (K:Nat) (x:(⟨[.ptr 0 [],.pl Y_api_Claim],H_escrow_Escrow⟩:Tm).D):Option (⟨[.pl (.int .i64)],H_escrow_Escrow⟩:Tm).D :=
 let a:S_api_Claim:=x.1.1
 let h0:O_escrow_Escrow:=x.2.1
 let h1:(List S_A32_intu8):=x.2.2.1
 let h2:(List Bool):=x.2.2.2.1
 let h3:(List S_api_Payment):=x.2.2.2.2.1
 jn (fun (x0:(Unit × (O_escrow_Escrow × ((List S_A32_intu8) × ((List Bool) × ((List S_api_Payment) × (S_api_Claim × Unit))))))) =>
   optF (none) (outbox_Leaf K (((x0.2.2.2.2.2.1.1,(x0.2.2.2.2.2.1.2.2.1,(x0.2.2.2.2.2.1.2.2.2.1,()))),()),())) fun y1 =>
   brn (@inB .u64 (@I.sub .u64 x0.2.2.2.2.2.1.2.1 (I.of .u64 1)) (@lenL S_A32_intu8 x0.2.2.1))
    (optF (none) (merkle_Verify K (((@rdL S_A32_intu8 Z_S_A32_intu8 x0.2.2.1 (@I.nat .u64 (@I.sub .u64 x0.2.2.2.2.2.1.2.1 (I.of .u64 1)))),((I.conv (k:=.u64) .i64 x0.2.2.2.2.2.1.2.1),((I.conv (k:=.u64) .i64 x0.2.2.2.2.2.1.1),(y1.1.1,(x0.2.2.2.2.2.1.2.2.2.2.1,()))))),())) fun y2 =>
    brn (bnot y2.1.1)
     (some (((I.of .i64 16),()),(x0.2.1,(x0.2.2.1,(x0.2.2.2.1,(x0.2.2.2.2.1,()))))))
     (some (((I.of .i64 0),()),(x0.2.1,(x0.2.2.1,(x0.2.2.2.1,(x0.2.2.2.2.1,())))))))
    (none)) fun j0 =>
 jn (fun (x1:((Bool × Unit) × (O_escrow_Escrow × ((List S_A32_intu8) × ((List Bool) × ((List S_api_Payment) × (S_api_Claim × Unit))))))) =>
   brn x1.1.1
    (some (((I.of .i64 2),()),(x1.2.1,(x1.2.2.1,(x1.2.2.2.1,(x1.2.2.2.2.1,()))))))
    (jn (fun (x2:((Bool × Unit) × (O_escrow_Escrow × ((List S_A32_intu8) × ((List Bool) × ((List S_api_Payment) × (S_api_Claim × Unit))))))) =>
      brn x2.1.1
       (some (((I.of .i64 8),()),(x2.2.1,(x2.2.2.1,(x2.2.2.2.1,(x2.2.2.2.2.1,()))))))
       (brn (@inB .u64 x2.2.2.2.2.2.1.1 (@lenL Bool x2.2.2.2.1))
        (brn (@rdL Bool false x2.2.2.2.1 (@I.nat .u64 x2.2.2.2.2.2.1.1))
         (some (((I.of .i64 9),()),(x2.2.1,(x2.2.2.1,(x2.2.2.2.1,(x2.2.2.2.2.1,()))))))
         (j0 ((),(x2.2.1,(x2.2.2.1,(x2.2.2.2.1,(x2.2.2.2.2.1,(x2.2.2.2.2.2.1,()))))))))
        (none))) fun j2 =>
    brn (@I.ltb .u64 x1.2.2.2.2.2.1.2.1 (I.of .u64 1))
     (j2 ((true,()),(x1.2.1,(x1.2.2.1,(x1.2.2.2.1,(x1.2.2.2.2.1,(x1.2.2.2.2.2.1,())))))))
     (brn (@I.ltb .u64 (I.conv (k:=.i64) .u64 (I.ofNat .i64 (@lenL S_A32_intu8 x1.2.2.1))) x1.2.2.2.2.2.1.2.1)
      (j2 ((true,()),(x1.2.1,(x1.2.2.1,(x1.2.2.2.1,(x1.2.2.2.2.1,(x1.2.2.2.2.2.1,())))))))
      (j2 (((@I.leb .u64 x1.2.2.2.2.2.1.2.1 x1.2.2.2.2.2.1.1),()),(x1.2.1,(x1.2.2.1,(x1.2.2.2.1,(x1.2.2.2.2.1,(x1.2.2.2.2.2.1,())))))))))) fun j1 =>
 brn (@I.eqb .u64 a.2.2.1 (I.of .u64 0))
  (j1 ((true,()),(h0,(h1,(h2,(h3,(a,())))))))
  (brn (Ty.eqb u256 a.2.2.2.1 Z_U)
   (j1 ((true,()),(h0,(h1,(h2,(h3,(a,())))))))
   (j1 (((@I.ltb .i64 (I.of .i64 64) (I.ofNat .i64 (@lenL S_A32_intu8 a.2.2.2.2.1))),()),(h0,(h1,(h2,(h3,(a,()))))))))
noncomputable def escrow_Escrow_find (K:Nat) (x:(⟨[.bp Y_escrow_Escrow,.pl (.int .u64)],[]⟩:Tm).D):Option (⟨[.pl (.int .i64),.pl .bool],[]⟩:Tm).D :=
 let a:S_escrow_Escrow:=x.1.1
 let b:(I .u64):=x.1.2.1
 iter (none) (fun x0 =>
   brn (@I.ltb .i64 x0.1.2.2.2.1 x0.1.2.2.2.2.1)
    (brn (@inB .i64 (I.conv (k:=.u64) .i64 (@I.shr .u64 .u64 (I.conv (k:=.i64) .u64 (@I.add .i64 x0.1.2.2.2.1 x0.1.2.2.2.2.1)) (I.of .u64 1))) (@lenL S_api_Payment x0.1.1))
     (brn (@I.neb .u64 (@rdL S_api_Payment Z_S_api_Payment x0.1.1 (@I.nat .i64 (I.conv (k:=.u64) .i64 (@I.shr .u64 .u64 (I.conv (k:=.i64) .u64 (@I.add .i64 x0.1.2.2.2.1 x0.1.2.2.2.2.1)) (I.of .u64 1))))).1 (@rdL S_api_Payment Z_S_api_Payment x0.1.1 (@I.nat .i64 (I.conv (k:=.u64) .i64 (@I.shr .u64 .u64 (I.conv (k:=.i64) .u64 (@I.add .i64 x0.1.2.2.2.1 x0.1.2.2.2.2.1)) (I.of .u64 1))))).1)
      (brn (@I.neb .u64 x0.1.2.1 x0.1.2.1)
       (.again ((x0.1.1,(x0.1.2.1,(x0.1.2.2.1,(x0.1.2.2.2.1,((I.conv (k:=.u64) .i64 (@I.shr .u64 .u64 (I.conv (k:=.i64) .u64 (@I.add .i64 x0.1.2.2.2.1 x0.1.2.2.2.2.1)) (I.of .u64 1))),()))))),()))
       (.again ((x0.1.1,(x0.1.2.1,(x0.1.2.2.1,((@I.add .i64 (I.conv (k:=.u64) .i64 (@I.shr .u64 .u64 (I.conv (k:=.i64) .u64 (@I.add .i64 x0.1.2.2.2.1 x0.1.2.2.2.2.1)) (I.of .u64 1))) (I.of .i64 1)),(x0.1.2.2.2.2.1,()))))),())))
      (brn (@I.neb .u64 x0.1.2.1 x0.1.2.1)
       (.again ((x0.1.1,(x0.1.2.1,(x0.1.2.2.1,(x0.1.2.2.2.1,((I.conv (k:=.u64) .i64 (@I.shr .u64 .u64 (I.conv (k:=.i64) .u64 (@I.add .i64 x0.1.2.2.2.1 x0.1.2.2.2.2.1)) (I.of .u64 1))),()))))),()))
       (brn (@I.ltb .u64 (@rdL S_api_Payment Z_S_api_Payment x0.1.1 (@I.nat .i64 (I.conv (k:=.u64) .i64 (@I.shr .u64 .u64 (I.conv (k:=.i64) .u64 (@I.add .i64 x0.1.2.2.2.1 x0.1.2.2.2.2.1)) (I.of .u64 1))))).1 x0.1.2.1)
        (.again ((x0.1.1,(x0.1.2.1,(x0.1.2.2.1,((@I.add .i64 (I.conv (k:=.u64) .i64 (@I.shr .u64 .u64 (I.conv (k:=.i64) .u64 (@I.add .i64 x0.1.2.2.2.1 x0.1.2.2.2.2.1)) (I.of .u64 1))) (I.of .i64 1)),(x0.1.2.2.2.2.1,()))))),()))
        (brn (@I.ltb .u64 x0.1.2.1 (@rdL S_api_Payment Z_S_api_Payment x0.1.1 (@I.nat .i64 (I.conv (k:=.u64) .i64 (@I.shr .u64 .u64 (I.conv (k:=.i64) .u64 (@I.add .i64 x0.1.2.2.2.1 x0.1.2.2.2.2.1)) (I.of .u64 1))))).1)
         (.again ((x0.1.1,(x0.1.2.1,(x0.1.2.2.1,(x0.1.2.2.2.1,((I.conv (k:=.u64) .i64 (@I.shr .u64 .u64 (I.conv (k:=.i64) .u64 (@I.add .i64 x0.1.2.2.2.1 x0.1.2.2.2.2.1)) (I.of .u64 1))),()))))),()))
         (.again ((x0.1.1,(x0.1.2.1,(x0.1.2.2.1,(x0.1.2.2.2.1,((I.conv (k:=.u64) .i64 (@I.shr .u64 .u64 (I.conv (k:=.i64) .u64 (@I.add .i64 x0.1.2.2.2.1 x0.1.2.2.2.2.1)) (I.of .u64 1))),()))))),()))))))
     (.done (none)))
    (.done (brn (@I.ltb .i64 x0.1.2.2.2.1 x0.1.2.2.1)
     (brn (@inB .i64 x0.1.2.2.2.1 (@lenL S_api_Payment x0.1.1))
      (brn (@I.neb .u64 (@rdL S_api_Payment Z_S_api_Payment x0.1.1 (@I.nat .i64 x0.1.2.2.2.1)).1 (@rdL S_api_Payment Z_S_api_Payment x0.1.1 (@I.nat .i64 x0.1.2.2.2.1)).1)
       (brn (@I.neb .u64 x0.1.2.1 x0.1.2.1)
        (some ((x0.1.2.2.2.1,(true,())),()))
        (some ((x0.1.2.2.2.1,(false,())),())))
       (brn (@I.neb .u64 x0.1.2.1 x0.1.2.1)
        (some ((x0.1.2.2.2.1,(false,())),()))
        (brn (@I.ltb .u64 (@rdL S_api_Payment Z_S_api_Payment x0.1.1 (@I.nat .i64 x0.1.2.2.2.1)).1 x0.1.2.1)
         (some ((x0.1.2.2.2.1,(false,())),()))
         (brn (@I.ltb .u64 x0.1.2.1 (@rdL S_api_Payment Z_S_api_Payment x0.1.1 (@I.nat .i64 x0.1.2.2.2.1)).1)
          (some ((x0.1.2.2.2.1,(false,())),()))
          (some ((x0.1.2.2.2.1,(true,())),()))))))
      (none))
     (some ((x0.1.2.2.2.1,(false,())),())))))
 K ((a.2.2.2.1,(b,((I.ofNat .i64 (@lenL S_api_Payment a.2.2.2.1)),((I.of .i64 0),((I.ofNat .i64 (@lenL S_api_Payment a.2.2.2.1)),()))))),())
noncomputable def escrow_Escrow_L1Balance (K:Nat) (x:(⟨[.bp Y_escrow_Escrow,.pl (.int .u64)],[]⟩:Tm).D):Option (⟨[.pl u256],[]⟩:Tm).D :=
 let a:S_escrow_Escrow:=x.1.1
 let b:(I .u64):=x.1.2.1
 optF (none) (escrow_Escrow_find K ((a,(b,())),())) fun y0 =>
 brn y0.1.2.1
  (brn (@inB .i64 y0.1.1 (@lenL S_api_Payment a.2.2.2.1))
   (some (((@rdL S_api_Payment Z_S_api_Payment a.2.2.2.1 (@I.nat .i64 y0.1.1)).2.1,()),()))
   (none))
  (some ((Z_U,()),()))
noncomputable def escrow_Escrow_Claim (K:Nat) (x:(⟨[.ptr 0 [],.pl Y_api_Claim],H_escrow_Escrow⟩:Tm).D):Option (⟨[.pl (.int .i64)],H_escrow_Escrow⟩:Tm).D :=
 let a:S_api_Claim:=x.1.1
 let h0:O_escrow_Escrow:=x.2.1
 let h1:(List S_A32_intu8):=x.2.2.1
 let h2:(List Bool):=x.2.2.2.1
 let h3:(List S_api_Payment):=x.2.2.2.2.1
 optF (none) (escrow_Escrow_checkClaim K ((a,()),(h0,(h1,(h2,(h3,())))))) fun y0 =>
 brn (@I.neb .i64 y0.1.1 (I.of .i64 0))
  (some ((y0.1.1,()),y0.2))
  (optF (none) (uint256_Sub ((y0.2.1.2.2.1,(a.2.2.2.1,())),())) fun y1 =>
  brn (@I.neb .i64 y1.1.2.1 (I.of .i64 0))
   (some (((I.of .i64 10),()),y0.2))
   (optF (none) (escrow_Escrow_L1Balance K (((y0.2.2.1,(y0.2.2.2.1,(y0.2.1.2.2.1,(y0.2.2.2.2.1,y0.2.1.2.2.2.2)))),(a.2.2.1,())),())) fun y2 =>
   optF (none) (uint256_Add ((y2.1.1,(a.2.2.2.1,())),())) fun y3 =>
   brn (@I.neb .i64 y3.1.2.1 (I.of .i64 0))
    (some ((y3.1.2.1,()),y0.2))
    (brn (@inB .u64 a.1 (@lenL Bool y0.2.2.2.1))
     (optF (none) (escrow_Escrow_find K (((y0.2.2.1,((@setL Bool y0.2.2.2.1 (@I.nat .u64 a.1) true),(y1.1.1,(y0.2.2.2.2.1,y0.2.1.2.2.2.2)))),(a.2.2.1,())),())) fun y4 =>
     brn y4.1.2.1
      (brn (@inB .i64 y4.1.1 (@lenL S_api_Payment y0.2.2.2.2.1))
       (some (((I.of .i64 0),()),(((),((),(y1.1.1,y0.2.1.2.2.2))),(y0.2.2.1,((@setL Bool y0.2.2.2.1 (@I.nat .u64 a.1) true),((@setL S_api_Payment y0.2.2.2.2.1 (@I.nat .i64 y4.1.1) ((@rdL S_api_Payment Z_S_api_Payment y0.2.2.2.2.1 (@I.nat .i64 y4.1.1)).1,(y3.1.1,(@rdL S_api_Payment Z_S_api_Payment y0.2.2.2.2.1 (@I.nat .i64 y4.1.1)).2.2))),()))))))
       (none))
      (optF (none) (insF Y_api_Payment ((y4.1.1,()),(y0.2.2.2.2.1,(((a.2.2.1,(y3.1.1,())) :: []),())))) fun y5 =>
      some (((I.of .i64 0),()),(((),((),(y1.1.1,y0.2.1.2.2.2))),(y0.2.2.1,((@setL Bool y0.2.2.2.1 (@I.nat .u64 a.1) true),(y5.2.1,())))))))
     (none))))
noncomputable def executor_Machine_claim (K:Nat) (x:(⟨[.ptr 0 [],.pl Y_api_Step],H_executor_Machine⟩:Tm).D):Option (⟨[.pl Y_api_Receipt,.pl (.int .i64)],H_executor_Machine⟩:Tm).D :=
 let a:S_api_Step:=x.1.1
 let h0:O_executor_Machine:=x.2.1
 let h1:O_ledger_Ledger:=x.2.2.1
 let h2:O_outbox_Outbox:=x.2.2.2.1
 let h3:O_merkle_Tree:=x.2.2.2.2.1
 let h4:O_escrow_Escrow:=x.2.2.2.2.2.1
 let h5:(List S_api_Account):=x.2.2.2.2.2.2.1
 let h6:(List S_api_Message):=x.2.2.2.2.2.2.2.1
 let h7:(List S_A32_intu8):=x.2.2.2.2.2.2.2.2.1
 let h8:(List S_A32_intu8):=x.2.2.2.2.2.2.2.2.2.1
 let h9:(List Bool):=x.2.2.2.2.2.2.2.2.2.2.1
 let h10:(List S_api_Payment):=x.2.2.2.2.2.2.2.2.2.2.2.1
 optF (none) (escrow_Escrow_Claim K ((a.2.2.2.2.2.2.2.1,()),(h4,(h8,(h9,(h10,())))))) fun y0 =>
 some ((((I.of .i64 0),((I.of .i64 0),(Z_S_api_Charge,(Z_U,(Z_U,((I.of .u64 0),(Z_U,(Z_U,([],()))))))))),(y0.1.1,())),(h0,(h1,(h2,(h3,(y0.2.1,(h5,(h6,(h7,(y0.2.2.1,(y0.2.2.2.1,(y0.2.2.2.2.1,()))))))))))))
noncomputable def executor_Machine_Execute (K:Nat) (x:(⟨[.ptr 0 [],.pl Y_api_Step],H_executor_Machine⟩:Tm).D):Option (⟨[.pl Y_api_Receipt],H_executor_Machine⟩:Tm).D :=
 let a:S_api_Step:=x.1.1
 let h0:O_executor_Machine:=x.2.1
 let h1:O_ledger_Ledger:=x.2.2.1
 let h2:O_outbox_Outbox:=x.2.2.2.1
 let h3:O_merkle_Tree:=x.2.2.2.2.1
 let h4:O_escrow_Escrow:=x.2.2.2.2.2.1
 let h5:(List S_api_Account):=x.2.2.2.2.2.2.1
 let h6:(List S_api_Message):=x.2.2.2.2.2.2.2.1
 let h7:(List S_A32_intu8):=x.2.2.2.2.2.2.2.2.1
 let h8:(List S_A32_intu8):=x.2.2.2.2.2.2.2.2.2.1
 let h9:(List Bool):=x.2.2.2.2.2.2.2.2.2.2.1
 let h10:(List S_api_Payment):=x.2.2.2.2.2.2.2.2.2.2.2.1
 optF (none) (executor_Machine_count K ((),(h0,(h1,(h2,(h3,(h4,(h5,(h6,(h7,(h8,(h9,(h10,()))))))))))))) fun y0 =>
 brn (@I.ltb .i64 a.1 (I.of .i64 1))
  (some ((((I.of .i64 0),((I.of .i64 17),(Z_S_api_Charge,(Z_U,(Z_U,((I.of .u64 0),(Z_U,(Z_U,([],()))))))))),()),y0.2))
  (brn (@I.leb .i64 (I.of .i64 8) a.1)
   (some ((((I.of .i64 0),((I.of .i64 17),(Z_S_api_Charge,(Z_U,(Z_U,((I.of .u64 0),(Z_U,(Z_U,([],()))))))))),()),y0.2))
   (brn (@inB .i64 a.1 8)
    (brn (eqN (@I.nat .i64 a.1) 1)
     (optF (none) (executor_Machine_transaction K ((a,()),y0.2)) fun y1 =>
     brn (@I.neb .i64 y1.1.2.1 (I.of .i64 0))
      (some (((a.1,(y1.1.2.1,(Z_S_api_Charge,(Z_U,(Z_U,((I.of .u64 0),(Z_U,(Z_U,([],()))))))))),()),y1.2))
      (some (((a.1,y1.1.1.2),()),y1.2)))
     (brn (eqN (@I.nat .i64 a.1) 2)
      (optF (none) (executor_Machine_report K ((a,()),y0.2)) fun y1 =>
      brn (@I.neb .i64 y1.1.2.1 (I.of .i64 0))
       (some (((a.1,(y1.1.2.1,(Z_S_api_Charge,(Z_U,(Z_U,((I.of .u64 0),(Z_U,(Z_U,([],()))))))))),()),y1.2))
       (some (((a.1,y1.1.1.2),()),y1.2)))
      (brn (eqN (@I.nat .i64 a.1) 3)
       (optF (none) (executor_Machine_tick K ((a,()),y0.2)) fun y1 =>
       brn (@I.neb .i64 y1.1.2.1 (I.of .i64 0))
        (some (((a.1,(y1.1.2.1,(Z_S_api_Charge,(Z_U,(Z_U,((I.of .u64 0),(Z_U,(Z_U,([],()))))))))),()),y1.2))
        (some (((a.1,y1.1.1.2),()),y1.2)))
       (brn (eqN (@I.nat .i64 a.1) 4)
        (optF (none) (executor_Machine_setParam K ((a,()),y0.2)) fun y1 =>
        brn (@I.neb .i64 y1.1.2.1 (I.of .i64 0))
         (some (((a.1,(y1.1.2.1,(Z_S_api_Charge,(Z_U,(Z_U,((I.of .u64 0),(Z_U,(Z_U,([],()))))))))),()),y1.2))
         (some (((a.1,y1.1.1.2),()),y1.2)))
        (brn (eqN (@I.nat .i64 a.1) 5)
         (optF (none) (executor_Machine_addPoster K ((a,()),y0.2)) fun y1 =>
         brn (@I.neb .i64 y1.1.2.1 (I.of .i64 0))
          (some (((a.1,(y1.1.2.1,(Z_S_api_Charge,(Z_U,(Z_U,((I.of .u64 0),(Z_U,(Z_U,([],()))))))))),()),y1.2))
          (some (((a.1,y1.1.1.2),()),y1.2)))
         (brn (eqN (@I.nat .i64 a.1) 6)
          (optF (none) (executor_Machine_deposit K ((a,()),y0.2)) fun y1 =>
          brn (@I.neb .i64 y1.1.2.1 (I.of .i64 0))
           (some (((a.1,(y1.1.2.1,(Z_S_api_Charge,(Z_U,(Z_U,((I.of .u64 0),(Z_U,(Z_U,([],()))))))))),()),y1.2))
           (some (((a.1,y1.1.1.2),()),y1.2)))
          (brn (eqN (@I.nat .i64 a.1) 7)
           (optF (none) (executor_Machine_claim K ((a,()),y0.2)) fun y1 =>
           brn (@I.neb .i64 y1.1.2.1 (I.of .i64 0))
            (some (((a.1,(y1.1.2.1,(Z_S_api_Charge,(Z_U,(Z_U,((I.of .u64 0),(Z_U,(Z_U,([],()))))))))),()),y1.2))
            (some (((a.1,y1.1.1.2),()),y1.2)))
           (none))))))))
    (none)))
noncomputable def wirereader_Reader_Byte (K:Nat) (x:(⟨[.ptr 0 []],[.box Y_wirereader_Reader (.pl Y_wirereader_Reader)]⟩:Tm).D):Option (⟨[.pl (.int .u8)],[.box Y_wirereader_Reader (.pl Y_wirereader_Reader)]⟩:Tm).D :=
 let h0:S_wirereader_Reader:=x.2.1
 jn (fun (x0:(Unit × (S_wirereader_Reader × Unit))) =>
   brn (@inB .i64 (@I.sub .i64 (@I.add .i64 x0.2.1.2.1 (I.of .i64 1)) (I.of .i64 1)) (@lenL (I .u8) x0.2.1.1))
    (some (((@rdL (I .u8) (I.of .u8 0) x0.2.1.1 (@I.nat .i64 (@I.sub .i64 (@I.add .i64 x0.2.1.2.1 (I.of .i64 1)) (I.of .i64 1)))),()),((x0.2.1.1,((@I.add .i64 x0.2.1.2.1 (I.of .i64 1)),x0.2.1.2.2)),())))
    (none)) fun j0 =>
 brn h0.2.2.1
  (some (((I.of .u8 0),()),((h0.1,(h0.2.1,(true,h0.2.2.2))),())))
  (brn (@I.leb .i64 (I.ofNat .i64 (@lenL (I .u8) h0.1)) h0.2.1)
   (some (((I.of .u8 0),()),((h0.1,(h0.2.1,(true,h0.2.2.2))),())))
   (j0 ((),(h0,()))))
noncomputable def wirereader_Reader_Uint64 (K:Nat) (x:(⟨[.ptr 0 []],[.box Y_wirereader_Reader (.pl Y_wirereader_Reader)]⟩:Tm).D):Option (⟨[.pl (.int .u64)],[.box Y_wirereader_Reader (.pl Y_wirereader_Reader)]⟩:Tm).D :=
 let h0:S_wirereader_Reader:=x.2.1
 optF (none) (wire_ReadUint64 K ((h0.1,(h0.2.1,())),())) fun y0 =>
 optF (none) (wirereader_Reader_advance K ((y0.1.2.1,(y0.1.2.2.1,())),(h0,()))) fun y1 =>
 brn (bnot y1.1.1)
  (some (((I.of .u64 0),()),(y1.2.1,())))
  (some ((y0.1.1,()),(y1.2.1,())))
noncomputable def wire_ReadUint256 (K:Nat) (x:(⟨[.pl (.sl (.int .u8)),.pl (.int .i64)],[]⟩:Tm).D):Option (⟨[.pl u256,.pl (.int .i64),.pl (.int .i64)],[]⟩:Tm).D :=
 let a:(List (I .u8)):=x.1.1
 let b:(I .i64):=x.1.2.1
 optF (none) (wire_readUint K ((a,(b,((I.of .i64 32),()))),())) fun y0 =>
 some ((y0.1.1,(y0.1.2.1,(y0.1.2.2.1,()))),())
noncomputable def wirereader_Reader_Uint256 (K:Nat) (x:(⟨[.ptr 0 []],[.box Y_wirereader_Reader (.pl Y_wirereader_Reader)]⟩:Tm).D):Option (⟨[.pl u256],[.box Y_wirereader_Reader (.pl Y_wirereader_Reader)]⟩:Tm).D :=
 let h0:S_wirereader_Reader:=x.2.1
 optF (none) (wire_ReadUint256 K ((h0.1,(h0.2.1,())),())) fun y0 =>
 optF (none) (wirereader_Reader_advance K ((y0.1.2.1,(y0.1.2.2.1,())),(h0,()))) fun y1 =>
 brn (bnot y1.1.1)
  (some ((Z_U,()),(y1.2.1,())))
  (some ((y0.1.1,()),(y1.2.1,())))
noncomputable def tx_Decode (K:Nat) (x:(⟨[.pl (.sl (.int .u8))],[]⟩:Tm).D):Option (⟨[.pl Y_api_Transaction,.pl (.int .i64)],[]⟩:Tm).D :=
 let a:(List (I .u8)):=x.1.1
 optF (none) (wirereader_New K ((a,()),())) fun y0 =>
 optF (none) (wirereader_Reader_Uint64 K ((),(y0.2.1,()))) fun y1 =>
 optF (none) (wirereader_Reader_Uint64 K ((),(y1.2.1,()))) fun y2 =>
 optF (none) (wirereader_Reader_Uint64 K ((),(y2.2.1,()))) fun y3 =>
 optF (none) (wirereader_Reader_Uint256 K ((),(y3.2.1,()))) fun y4 =>
 optF (none) (wirereader_Reader_Uint64 K ((),(y4.2.1,()))) fun y5 =>
 optF (none) (wirereader_Reader_Uint256 K ((),(y5.2.1,()))) fun y6 =>
 optF (none) (wirereader_Reader_Uint256 K ((),(y6.2.1,()))) fun y7 =>
 optF (none) (wirereader_Reader_Uint64 K ((),(y7.2.1,()))) fun y8 =>
 optF (none) (wirereader_Reader_Bytes K ((),(y8.2.1,()))) fun y9 =>
 optF (none) (wirereader_Reader_Done K ((y9.2.1,()),())) fun y10 =>
 brn (bnot y10.1.1)
  (some ((((I.of .u64 0),((I.of .u64 0),((I.of .u64 0),(Z_U,((I.of .u64 0),(Z_U,(Z_U,((I.of .u64 0),([],()))))))))),((I.of .i64 3),())),()))
  (brn (@I.ltb .i64 (I.of .i64 4096) (I.ofNat .i64 (@lenL (I .u8) y9.1.1)))
   (some ((((I.of .u64 0),((I.of .u64 0),((I.of .u64 0),(Z_U,((I.of .u64 0),(Z_U,(Z_U,((I.of .u64 0),([],()))))))))),((I.of .i64 3),())),()))
   (some (((y1.1.1,(y2.1.1,(y3.1.1,(y4.1.1,(y5.1.1,(y6.1.1,(y7.1.1,(y8.1.1,(y9.1.1,()))))))))),((I.of .i64 0),())),())))
noncomputable def wirereader_Reader_Hash (K:Nat) (x:(⟨[.ptr 0 []],[.box Y_wirereader_Reader (.pl Y_wirereader_Reader)]⟩:Tm).D):Option (⟨[.pl (.arr 32 (.int .u8))],[.box Y_wirereader_Reader (.pl Y_wirereader_Reader)]⟩:Tm).D :=
 let h0:S_wirereader_Reader:=x.2.1
 iter (none) (fun x0 =>
   brn (@I.ltb .i64 x0.1.1 (I.of .i64 32))
    (optF (.done (none)) (wirereader_Reader_Byte K ((),(x0.2.1,()))) fun y1 =>
    brn (@inB .i64 x0.1.1 32)
     (.again (((@I.add .i64 x0.1.1 (I.of .i64 1)),()),(y1.2.1,(x0.2.2.1,((@Arr.upd (I .u8) 32 x0.2.2.2.1 (@I.nat .i64 x0.1.1) y1.1.1),())))))
     (.done (none)))
    (.done (some ((x0.2.2.2.1,()),(x0.2.1,())))))
 K (((I.of .i64 0),()),(h0,(Z_S_A32_intu8,(Z_S_A32_intu8,()))))
noncomputable def step_readProof (K:Nat) (x:(⟨[.ptr 0 []],[.box Y_wirereader_Reader (.pl Y_wirereader_Reader)]⟩:Tm).D):Option (⟨[.pl (.sl (.arr 32 (.int .u8))),.pl .bool],[.box Y_wirereader_Reader (.pl Y_wirereader_Reader)]⟩:Tm).D :=
 let h0:S_wirereader_Reader:=x.2.1
 optF (none) (wirereader_Reader_Uint64 K ((),(h0,()))) fun y0 =>
 brn (@I.ltb .u64 (I.of .u64 64) y0.1.1)
  (some (([],(false,())),(y0.2.1,())))
  (iter (none) (fun (x1:(((I .u64) × ((I .u64) × Unit)) × (S_wirereader_Reader × ((List S_A32_intu8) × Unit)))) =>
    brn (@I.ltb .u64 x1.1.2.1 x1.1.1)
     (optF (.done (none)) (wirereader_Reader_Hash K ((),(x1.2.1,()))) fun y2 =>
     brn (fitsLen (@lenL S_A32_intu8 (@appL S_A32_intu8 x1.2.2.1 (y2.1.1 :: []))))
      (.again ((x1.1.1,((@I.add .u64 x1.1.2.1 (I.of .u64 1)),())),(y2.2.1,((@appL S_A32_intu8 x1.2.2.1 (y2.1.1 :: [])),()))))
      (.done (none)))
     (.done (some ((x1.2.2.1,(true,())),(x1.2.1,())))))
  K ((y0.1.1,((I.of .u64 0),())),(y0.2.1,([],()))))
noncomputable def step_Decode (K:Nat) (x:(⟨[.pl (.sl (.int .u8))],[]⟩:Tm).D):Option (⟨[.pl Y_api_Step,.pl (.int .i64)],[]⟩:Tm).D :=
 let a:(List (I .u8)):=x.1.1
 brn (@I.ltb .i64 (I.of .i64 8192) (I.ofNat .i64 (@lenL (I .u8) a)))
  (some ((((I.of .i64 0),(((I.of .u64 0),((I.of .u64 0),((I.of .u64 0),(Z_U,((I.of .u64 0),(Z_U,(Z_U,((I.of .u64 0),([],()))))))))),(Z_S_api_Message,((I.of .u64 0),((I.of .i64 0),(Z_U,((I.of .u64 0),(((I.of .u64 0),((I.of .u64 0),((I.of .u64 0),(Z_U,([],()))))),())))))))),((I.of .i64 6),())),()))
  (optF (none) (wirereader_New K ((a,()),())) fun y0 =>
  optF (none) (wirereader_Reader_Byte K ((),(y0.2.1,()))) fun y1 =>
  brn (@I.eqb .i64 (I.conv (k:=.u8) .i64 y1.1.1) (I.of .i64 1))
   (optF (none) (wirereader_Reader_Bytes K ((),(y1.2.1,()))) fun y2 =>
   optF (none) (tx_Decode K ((y2.1.1,()),())) fun y3 =>
   brn (bnot (@I.eqb .i64 y3.1.2.1 (I.of .i64 0)))
    (some ((((I.of .i64 0),(((I.of .u64 0),((I.of .u64 0),((I.of .u64 0),(Z_U,((I.of .u64 0),(Z_U,(Z_U,((I.of .u64 0),([],()))))))))),(Z_S_api_Message,((I.of .u64 0),((I.of .i64 0),(Z_U,((I.of .u64 0),(((I.of .u64 0),((I.of .u64 0),((I.of .u64 0),(Z_U,([],()))))),())))))))),((I.of .i64 3),())),()))
    (optF (none) (wirereader_Reader_Done K ((y2.2.1,()),())) fun y4 =>
    brn (bnot y4.1.1)
     (some ((((I.of .i64 0),(((I.of .u64 0),((I.of .u64 0),((I.of .u64 0),(Z_U,((I.of .u64 0),(Z_U,(Z_U,((I.of .u64 0),([],()))))))))),(Z_S_api_Message,((I.of .u64 0),((I.of .i64 0),(Z_U,((I.of .u64 0),(((I.of .u64 0),((I.of .u64 0),((I.of .u64 0),(Z_U,([],()))))),())))))))),((I.of .i64 3),())),()))
     (some ((((I.conv (k:=.u8) .i64 y1.1.1),(y3.1.1,(Z_S_api_Message,((I.of .u64 0),((I.of .i64 0),(Z_U,((I.of .u64 0),(((I.of .u64 0),((I.of .u64 0),((I.of .u64 0),(Z_U,([],()))))),())))))))),((I.of .i64 0),())),()))))
   (brn (@I.eqb .i64 (I.conv (k:=.u8) .i64 y1.1.1) (I.of .i64 2))
    (optF (none) (wirereader_Reader_Uint64 K ((),(y1.2.1,()))) fun y2 =>
    optF (none) (wirereader_Reader_Uint64 K ((),(y2.2.1,()))) fun y3 =>
    optF (none) (wirereader_Reader_Uint256 K ((),(y3.2.1,()))) fun y4 =>
    optF (none) (wirereader_Reader_Done K ((y4.2.1,()),())) fun y5 =>
    brn (bnot y5.1.1)
     (some ((((I.of .i64 0),(((I.of .u64 0),((I.of .u64 0),((I.of .u64 0),(Z_U,((I.of .u64 0),(Z_U,(Z_U,((I.of .u64 0),([],()))))))))),(Z_S_api_Message,((I.of .u64 0),((I.of .i64 0),(Z_U,((I.of .u64 0),(((I.of .u64 0),((I.of .u64 0),((I.of .u64 0),(Z_U,([],()))))),())))))))),((I.of .i64 3),())),()))
     (some ((((I.conv (k:=.u8) .i64 y1.1.1),(((I.of .u64 0),((I.of .u64 0),((I.of .u64 0),(Z_U,((I.of .u64 0),(Z_U,(Z_U,((I.of .u64 0),([],()))))))))),((y2.1.1,(y3.1.1,(y4.1.1,()))),((I.of .u64 0),((I.of .i64 0),(Z_U,((I.of .u64 0),(((I.of .u64 0),((I.of .u64 0),((I.of .u64 0),(Z_U,([],()))))),())))))))),((I.of .i64 0),())),())))
    (brn (@I.eqb .i64 (I.conv (k:=.u8) .i64 y1.1.1) (I.of .i64 3))
     (optF (none) (wirereader_Reader_Uint64 K ((),(y1.2.1,()))) fun y2 =>
     optF (none) (wirereader_Reader_Done K ((y2.2.1,()),())) fun y3 =>
     brn (bnot y3.1.1)
      (some ((((I.of .i64 0),(((I.of .u64 0),((I.of .u64 0),((I.of .u64 0),(Z_U,((I.of .u64 0),(Z_U,(Z_U,((I.of .u64 0),([],()))))))))),(Z_S_api_Message,((I.of .u64 0),((I.of .i64 0),(Z_U,((I.of .u64 0),(((I.of .u64 0),((I.of .u64 0),((I.of .u64 0),(Z_U,([],()))))),())))))))),((I.of .i64 3),())),()))
      (some ((((I.conv (k:=.u8) .i64 y1.1.1),(((I.of .u64 0),((I.of .u64 0),((I.of .u64 0),(Z_U,((I.of .u64 0),(Z_U,(Z_U,((I.of .u64 0),([],()))))))))),(Z_S_api_Message,(y2.1.1,((I.of .i64 0),(Z_U,((I.of .u64 0),(((I.of .u64 0),((I.of .u64 0),((I.of .u64 0),(Z_U,([],()))))),())))))))),((I.of .i64 0),())),())))
     (brn (@I.eqb .i64 (I.conv (k:=.u8) .i64 y1.1.1) (I.of .i64 4))
      (optF (none) (wirereader_Reader_Uint64 K ((),(y1.2.1,()))) fun y2 =>
      optF (none) (wirereader_Reader_Uint256 K ((),(y2.2.1,()))) fun y3 =>
      brn (bnot (@I.leb .u64 y2.1.1 (I.of .u64 9223372036854775807)))
       (some ((((I.of .i64 0),(((I.of .u64 0),((I.of .u64 0),((I.of .u64 0),(Z_U,((I.of .u64 0),(Z_U,(Z_U,((I.of .u64 0),([],()))))))))),(Z_S_api_Message,((I.of .u64 0),((I.of .i64 0),(Z_U,((I.of .u64 0),(((I.of .u64 0),((I.of .u64 0),((I.of .u64 0),(Z_U,([],()))))),())))))))),((I.of .i64 3),())),()))
       (optF (none) (wirereader_Reader_Done K ((y3.2.1,()),())) fun y4 =>
       brn (bnot y4.1.1)
        (some ((((I.of .i64 0),(((I.of .u64 0),((I.of .u64 0),((I.of .u64 0),(Z_U,((I.of .u64 0),(Z_U,(Z_U,((I.of .u64 0),([],()))))))))),(Z_S_api_Message,((I.of .u64 0),((I.of .i64 0),(Z_U,((I.of .u64 0),(((I.of .u64 0),((I.of .u64 0),((I.of .u64 0),(Z_U,([],()))))),())))))))),((I.of .i64 3),())),()))
        (some ((((I.conv (k:=.u8) .i64 y1.1.1),(((I.of .u64 0),((I.of .u64 0),((I.of .u64 0),(Z_U,((I.of .u64 0),(Z_U,(Z_U,((I.of .u64 0),([],()))))))))),(Z_S_api_Message,((I.of .u64 0),((I.conv (k:=.u64) .i64 (@I.and .u64 y2.1.1 (I.of .u64 9223372036854775807))),(y3.1.1,((I.of .u64 0),(((I.of .u64 0),((I.of .u64 0),((I.of .u64 0),(Z_U,([],()))))),())))))))),((I.of .i64 0),())),()))))
      (brn (@I.eqb .i64 (I.conv (k:=.u8) .i64 y1.1.1) (I.of .i64 5))
       (optF (none) (wirereader_Reader_Uint64 K ((),(y1.2.1,()))) fun y2 =>
       optF (none) (wirereader_Reader_Done K ((y2.2.1,()),())) fun y3 =>
       brn (bnot y3.1.1)
        (some ((((I.of .i64 0),(((I.of .u64 0),((I.of .u64 0),((I.of .u64 0),(Z_U,((I.of .u64 0),(Z_U,(Z_U,((I.of .u64 0),([],()))))))))),(Z_S_api_Message,((I.of .u64 0),((I.of .i64 0),(Z_U,((I.of .u64 0),(((I.of .u64 0),((I.of .u64 0),((I.of .u64 0),(Z_U,([],()))))),())))))))),((I.of .i64 3),())),()))
        (some ((((I.conv (k:=.u8) .i64 y1.1.1),(((I.of .u64 0),((I.of .u64 0),((I.of .u64 0),(Z_U,((I.of .u64 0),(Z_U,(Z_U,((I.of .u64 0),([],()))))))))),(Z_S_api_Message,((I.of .u64 0),((I.of .i64 0),(Z_U,(y2.1.1,(((I.of .u64 0),((I.of .u64 0),((I.of .u64 0),(Z_U,([],()))))),())))))))),((I.of .i64 0),())),())))
       (brn (@I.eqb .i64 (I.conv (k:=.u8) .i64 y1.1.1) (I.of .i64 6))
        (optF (none) (wirereader_Reader_Uint64 K ((),(y1.2.1,()))) fun y2 =>
        optF (none) (wirereader_Reader_Uint256 K ((),(y2.2.1,()))) fun y3 =>
        optF (none) (wirereader_Reader_Done K ((y3.2.1,()),())) fun y4 =>
        brn (bnot y4.1.1)
         (some ((((I.of .i64 0),(((I.of .u64 0),((I.of .u64 0),((I.of .u64 0),(Z_U,((I.of .u64 0),(Z_U,(Z_U,((I.of .u64 0),([],()))))))))),(Z_S_api_Message,((I.of .u64 0),((I.of .i64 0),(Z_U,((I.of .u64 0),(((I.of .u64 0),((I.of .u64 0),((I.of .u64 0),(Z_U,([],()))))),())))))))),((I.of .i64 3),())),()))
         (some ((((I.conv (k:=.u8) .i64 y1.1.1),(((I.of .u64 0),((I.of .u64 0),((I.of .u64 0),(Z_U,((I.of .u64 0),(Z_U,(Z_U,((I.of .u64 0),([],()))))))))),(Z_S_api_Message,((I.of .u64 0),((I.of .i64 0),(y3.1.1,(y2.1.1,(((I.of .u64 0),((I.of .u64 0),((I.of .u64 0),(Z_U,([],()))))),())))))))),((I.of .i64 0),())),())))
        (brn (@I.eqb .i64 (I.conv (k:=.u8) .i64 y1.1.1) (I.of .i64 7))
         (optF (none) (wirereader_Reader_Uint64 K ((),(y1.2.1,()))) fun y2 =>
         optF (none) (wirereader_Reader_Uint64 K ((),(y2.2.1,()))) fun y3 =>
         optF (none) (wirereader_Reader_Uint64 K ((),(y3.2.1,()))) fun y4 =>
         optF (none) (wirereader_Reader_Uint256 K ((),(y4.2.1,()))) fun y5 =>
         optF (none) (step_readProof K ((),(y5.2.1,()))) fun y6 =>
         brn (bnot y6.1.2.1)
          (some ((((I.of .i64 0),(((I.of .u64 0),((I.of .u64 0),((I.of .u64 0),(Z_U,((I.of .u64 0),(Z_U,(Z_U,((I.of .u64 0),([],()))))))))),(Z_S_api_Message,((I.of .u64 0),((I.of .i64 0),(Z_U,((I.of .u64 0),(((I.of .u64 0),((I.of .u64 0),((I.of .u64 0),(Z_U,([],()))))),())))))))),((I.of .i64 3),())),()))
          (optF (none) (wirereader_Reader_Done K ((y6.2.1,()),())) fun y7 =>
          brn (bnot y7.1.1)
           (some ((((I.of .i64 0),(((I.of .u64 0),((I.of .u64 0),((I.of .u64 0),(Z_U,((I.of .u64 0),(Z_U,(Z_U,((I.of .u64 0),([],()))))))))),(Z_S_api_Message,((I.of .u64 0),((I.of .i64 0),(Z_U,((I.of .u64 0),(((I.of .u64 0),((I.of .u64 0),((I.of .u64 0),(Z_U,([],()))))),())))))))),((I.of .i64 3),())),()))
           (some ((((I.conv (k:=.u8) .i64 y1.1.1),(((I.of .u64 0),((I.of .u64 0),((I.of .u64 0),(Z_U,((I.of .u64 0),(Z_U,(Z_U,((I.of .u64 0),([],()))))))))),(Z_S_api_Message,((I.of .u64 0),((I.of .i64 0),(Z_U,((I.of .u64 0),((y2.1.1,(y3.1.1,(y4.1.1,(y5.1.1,(y6.1.1,()))))),())))))))),((I.of .i64 0),())),()))))
         (some ((((I.of .i64 0),(((I.of .u64 0),((I.of .u64 0),((I.of .u64 0),(Z_U,((I.of .u64 0),(Z_U,(Z_U,((I.of .u64 0),([],()))))))))),(Z_S_api_Message,((I.of .u64 0),((I.of .i64 0),(Z_U,((I.of .u64 0),(((I.of .u64 0),((I.of .u64 0),((I.of .u64 0),(Z_U,([],()))))),())))))))),((I.of .i64 3),())),())))))))))
noncomputable def executor_Machine_ExecuteBytes (K:Nat) (x:(⟨[.ptr 0 [],.pl (.sl (.int .u8))],H_executor_Machine⟩:Tm).D):Option (⟨[.pl Y_api_Receipt],H_executor_Machine⟩:Tm).D :=
 let a:(List (I .u8)):=x.1.1
 let h0:O_executor_Machine:=x.2.1
 let h1:O_ledger_Ledger:=x.2.2.1
 let h2:O_outbox_Outbox:=x.2.2.2.1
 let h3:O_merkle_Tree:=x.2.2.2.2.1
 let h4:O_escrow_Escrow:=x.2.2.2.2.2.1
 let h5:(List S_api_Account):=x.2.2.2.2.2.2.1
 let h6:(List S_api_Message):=x.2.2.2.2.2.2.2.1
 let h7:(List S_A32_intu8):=x.2.2.2.2.2.2.2.2.1
 let h8:(List S_A32_intu8):=x.2.2.2.2.2.2.2.2.2.1
 let h9:(List Bool):=x.2.2.2.2.2.2.2.2.2.2.1
 let h10:(List S_api_Payment):=x.2.2.2.2.2.2.2.2.2.2.2.1
 optF (none) (step_Decode K ((a,()),())) fun y0 =>
 brn (@I.neb .i64 y0.1.2.1 (I.of .i64 0))
  (optF (none) (executor_Machine_count K ((),(h0,(h1,(h2,(h3,(h4,(h5,(h6,(h7,(h8,(h9,(h10,()))))))))))))) fun y1 =>
  some ((((I.of .i64 0),(y0.1.2.1,(Z_S_api_Charge,(Z_U,(Z_U,((I.of .u64 0),(Z_U,(Z_U,([],()))))))))),()),y1.2))
  (optF (none) (executor_Machine_Execute K ((y0.1.1,()),(h0,(h1,(h2,(h3,(h4,(h5,(h6,(h7,(h8,(h9,(h10,()))))))))))))) fun y1 =>
  some ((y1.1.1,()),y1.2))
noncomputable def pontagelaw28_awake (K:Nat) (x:(⟨[],[]⟩:Tm).D):Option (⟨[.pl .bool],[]⟩:Tm).D :=
 optF (none) (executor_New K ((),())) fun y0 =>
 optF (none) (executor_Machine_Execute K ((((I.of .i64 6),(((I.of .u64 0),((I.of .u64 0),((I.of .u64 0),(Z_U,((I.of .u64 0),(Z_U,(Z_U,((I.of .u64 0),([],()))))))))),(Z_S_api_Message,((I.of .u64 0),((I.of .i64 0),(((I.of .u64 100),((I.of .u64 0),((I.of .u64 0),((I.of .u64 0),())))),((I.of .u64 5),(((I.of .u64 0),((I.of .u64 0),((I.of .u64 0),(Z_U,([],()))))),())))))))),()),(y0.2.1,(y0.2.2.1,(y0.2.2.2.1,(y0.2.2.2.2.1,(y0.2.2.2.2.2.1,(y0.2.2.2.2.2.2.1,(y0.2.2.2.2.2.2.2.1,(y0.2.2.2.2.2.2.2.2.1,(y0.2.2.2.2.2.2.2.2.2.1,(y0.2.2.2.2.2.2.2.2.2.2.1,(y0.2.2.2.2.2.2.2.2.2.2.2.1,()))))))))))))) fun y1 =>
 optF (none) (executor_Machine_Execute K ((((I.of .i64 7),(((I.of .u64 0),((I.of .u64 0),((I.of .u64 0),(Z_U,((I.of .u64 0),(Z_U,(Z_U,((I.of .u64 0),([],()))))))))),(Z_S_api_Message,((I.of .u64 0),((I.of .i64 0),(Z_U,((I.of .u64 0),(((I.of .u64 0),((I.of .u64 1),((I.of .u64 1),(((I.of .u64 1),((I.of .u64 0),((I.of .u64 0),((I.of .u64 0),())))),([],()))))),())))))))),()),(y1.2.1,(y1.2.2.1,(y1.2.2.2.1,(y1.2.2.2.2.1,(y1.2.2.2.2.2.1,(y1.2.2.2.2.2.2.1,(y1.2.2.2.2.2.2.2.1,(y1.2.2.2.2.2.2.2.2.1,(y1.2.2.2.2.2.2.2.2.2.1,(y1.2.2.2.2.2.2.2.2.2.2.1,(y1.2.2.2.2.2.2.2.2.2.2.2.1,()))))))))))))) fun y2 =>
 optF (none) (executor_Machine_ExecuteBytes K (([],()),(y2.2.1,(y2.2.2.1,(y2.2.2.2.1,(y2.2.2.2.2.1,(y2.2.2.2.2.2.1,(y2.2.2.2.2.2.2.1,(y2.2.2.2.2.2.2.2.1,(y2.2.2.2.2.2.2.2.2.1,(y2.2.2.2.2.2.2.2.2.2.1,(y2.2.2.2.2.2.2.2.2.2.2.1,(y2.2.2.2.2.2.2.2.2.2.2.2.1,()))))))))))))) fun y3 =>
 optF (none) (executor_Machine_State K ((),(y3.2.1,(y3.2.2.1,(y3.2.2.2.1,(y3.2.2.2.2.1,(y3.2.2.2.2.2.1,(y3.2.2.2.2.2.2.1,(y3.2.2.2.2.2.2.2.1,(y3.2.2.2.2.2.2.2.2.1,(y3.2.2.2.2.2.2.2.2.2.1,(y3.2.2.2.2.2.2.2.2.2.2.1,(y3.2.2.2.2.2.2.2.2.2.2.2.1,()))))))))))))) fun y4 =>
 brn (@I.eqb .i64 y1.1.1.2.1 (I.of .i64 0))
  (brn (@I.eqb .i64 y1.1.1.1 (I.of .i64 6))
   (brn (@I.eqb .i64 y2.1.1.2.1 (I.of .i64 8))
    (brn (@I.eqb .i64 y3.1.1.2.1 (I.of .i64 3))
     (brn (@I.eqb .i64 y3.1.1.1 (I.of .i64 0))
      (brn (@I.eqb .u64 y4.1.1.1 (I.of .u64 3))
       (brn (Ty.eqb u256 y4.1.1.2.2.2.2.2.2.2.2.2.1 ((I.of .u64 100),((I.of .u64 0),((I.of .u64 0),((I.of .u64 0),())))))
        (brn (@I.eqb .i64 (I.ofNat .i64 (@lenL S_api_Account y4.2.2.2.2.2.2.2.2.2.2.2.2.2.1)) (I.of .i64 1))
         (brn (@inB .i64 (I.of .i64 0) (@lenL S_api_Account y4.2.2.2.2.2.2.2.2.2.2.2.2.2.1))
          (some (((Ty.eqb u256 (@rdL S_api_Account Z_S_api_Account y4.2.2.2.2.2.2.2.2.2.2.2.2.2.1 0).2.1 ((I.of .u64 100),((I.of .u64 0),((I.of .u64 0),((I.of .u64 0),()))))),()),()))
          (none))
         (some ((false,()),())))
        (some ((false,()),())))
       (some ((false,()),())))
      (some ((false,()),())))
     (some ((false,()),())))
    (some ((false,()),())))
   (some ((false,()),())))
  (some ((false,()),()))
noncomputable def pontagelaw28_ExecutorNil (K:Nat) (x:(⟨[.pl Y_api_Step,.pl (.sl (.int .u8)),.pl (.int .u64)],[]⟩:Tm).D):Option (⟨[.pl .bool],[]⟩:Tm).D :=
 let a:S_api_Step:=x.1.1
 let b:(List (I .u8)):=x.1.2.1
 let c:(I .u64):=x.1.2.2.1
 optF (none) (executor_Machine_ClaimN K ((c,()),())) fun y0 =>
 optF (none) (executor_Machine_ExecuteN K ((a,()),())) fun y1 =>
 optF (none) (pontagelaw0_EqualReceipt K ((y1.1.1,(((I.of .i64 0),((I.of .i64 1),(Z_S_api_Charge,(Z_U,(Z_U,((I.of .u64 0),(Z_U,(Z_U,([],()))))))))),())),())) fun y2 =>
 brn y2.1.1
  (optF (none) (executor_Machine_ExecuteBytesN K ((b,()),())) fun y3 =>
  optF (none) (pontagelaw0_EqualReceipt K ((y3.1.1,(((I.of .i64 0),((I.of .i64 1),(Z_S_api_Charge,(Z_U,(Z_U,((I.of .u64 0),(Z_U,(Z_U,([],()))))))))),())),())) fun y4 =>
  brn y4.1.1
   (optF (none) (executor_Machine_StateN K ((),())) fun y5 =>
   optF (none) (pontagelaw0_EqualState K ((y5.1.1,(((I.of .u64 0),(Z_S_api_Params,(Z_S_api_Block,((I.of .u64 0),((Z_U,((I.of .u64 0),((I.of .u64 0),((I.of .u64 0),(Z_S_api_Int256,([],())))))),([],(Z_S_A4_U,([],([],(Z_U,([],()))))))))))),())),())) fun y6 =>
   brn y6.1.1
    (optF (none) (executor_Machine_StateHashN K ((),())) fun y7 =>
    brn (Ty.eqb (.arr 32 (.int .u8)) y7.1.1 Z_S_A32_intu8)
     (brn (bnot y0.1.2.1)
      (optF (none) (pontagelaw28_awake K ((),())) fun y8 =>
      some ((y8.1.1,()),()))
      (some ((false,()),())))
     (some ((false,()),())))
    (some ((false,()),())))
   (some ((false,()),())))
  (some ((false,()),()))
end Sym

/- The contracts of the given functions. -/
namespace Sym
open Go Go.Proofs
set_option maxRecDepth 100000
def tys:List (Nat × Ty):=[(1,.fnc),(2,(.int .i64)),(3,(.int .i64)),(4,.bool),(5,(.int .u8)),(6,(.int .u8)),(7,Y_runtime_boundsError),(8,Y_runtime_boundsError),(9,.str),(10,.str),(11,.str),(22,(.sl (.sl (.int .u8)))),(24,.opq),(26,(.sl (.int .u8))),(27,(.int .i64)),(28,(.int .u64)),(30,u256),(32,Y_api_Charge),(33,(.sl Y_api_Report)),(35,Y_api_Receipt),(38,Y_api_Params),(40,Y_api_Block),(42,Y_api_Int256),(43,(.sl Y_api_Poster)),(45,Y_api_Pricer),(46,(.sl Y_api_Account)),(47,(.arr 4 u256)),(48,(.sl .bool)),(49,(.sl Y_api_Payment)),(51,Y_api_State),(55,(.int .u64)),(57,Y_api_Transaction),(59,Y_api_Report),(60,(.sl (.arr 32 (.int .u8)))),(62,Y_api_Claim),(64,Y_api_Step),(70,(.arr 32 (.int .u8))),(77,.opq),(79,.opq),(81,.opq),(84,Y_executor_Machine),(94,Y_api_Poster),(103,Y_api_Report),(108,(.sl .fnc)),(112,.fnc),(116,Y_api_Account),(121,Y_ledger_Ledger),(122,.opq),(125,Y_outbox_Outbox),(127,Y_escrow_Escrow),(128,.opq),(132,.opq),(137,Y_api_Payment),(147,(.cons (.sl (.arr 32 (.int .u8))) .nil)),(149,Y_wirereader_Reader),(167,Y_pricer_Outcome),(187,(.sl u256)),(190,(.int .u32)),(191,(.arr 8 (.int .u32))),(192,(.arr 64 (.int .u32))),(241,.opq),(243,.opq),(244,.opq),(253,(.sl (.int .u64))),(259,(.int .u64)),(279,.opq),(293,.fnc),(295,(.arr 5 (.int .u64))),(313,.fnc),(316,.fnc),(318,(.sl Y_debtqueue_item)),(320,Y_debtqueue_Queue),(322,.opq),(324,Y_debtqueue_item),(333,(.arr 8 (.int .u64)))]
def eqs:List (Nat × Ty):=[(2,(.int .i64)),(3,(.int .i64)),(4,.bool),(5,(.int .u8)),(6,(.int .u8)),(7,Y_runtime_boundsError),(8,Y_runtime_boundsError),(24,.opq),(27,(.int .i64)),(28,(.int .u64)),(30,u256),(32,Y_api_Charge),(38,Y_api_Params),(40,Y_api_Block),(42,Y_api_Int256),(47,(.arr 4 u256)),(55,(.int .u64)),(59,Y_api_Report),(70,(.arr 32 (.int .u8))),(77,.opq),(79,.opq),(81,.opq),(94,Y_api_Poster),(103,Y_api_Report),(116,Y_api_Account),(122,.opq),(128,.opq),(132,.opq),(137,Y_api_Payment),(190,(.int .u32)),(191,(.arr 8 (.int .u32))),(192,(.arr 64 (.int .u32))),(241,.opq),(243,.opq),(244,.opq),(259,(.int .u64)),(279,.opq),(295,(.arr 5 (.int .u64))),(322,.opq),(324,Y_debtqueue_item),(333,(.arr 8 (.int .u64)))]
theorem tysOk:tys.all (fun x=>tiB Tryz.prog x.1 x.2) = true:=by kernel_rfl
theorem eqsOk:eqs.all (fun x=>eqiB Tryz.prog x.1 x.2) = true:=by kernel_rfl
theorem follows:Tryz.prog.follows .mixedOrders = true:=by kernel_rfl
theorem noOddP:noOdd Tryz.prog:=noOdd_of (by kernel_rfl)
def owns:List Nat:=[35,51,84,121,125,127,147,318,320]
def meths : List (Nat × String × FuncId × Option Nat) := [(322, "Len", 269, some 318), (322, "Less", 270, some 318), (322, "Pop", 272, none), (322, "Push", 273, none), (322, "Swap", 271, some 318)]
theorem methsOk:meths.all (fun x=>methB Tryz.prog x.1 x.2.1 x.2.2.1 x.2.2.2) = true:=by kernel_rfl
theorem mkOk {C:Con} {n k:Nat} {hs:List (Nat × How)} {A:Anns} (h:HowsOk Tryz.prog hs) (e:∀ x,evalFn (mkEnv Tryz.prog tys eqs hs owns meths) A n C.In C.Out k K0 x = C.F x) (hko:keepOut C.In.heap C.Out.heap = true:=by rfl):ConOk Tryz.prog n C:=con_of_ev (E:=mkEnv Tryz.prog tys eqs hs owns meths) (envOk tysOk eqsOk h follows methsOk) noOddP (fun x _ h=>⟨A,k,K0,(e x).trans h⟩) hko
theorem mkOkO {C:Con} {n k:Nat} {hs:List (Nat × How)} {A:Anns} (ow:List Nat) (h:HowsOk Tryz.prog hs) (e:∀ x,evalFn (mkEnv Tryz.prog tys eqs hs ow meths) A n C.In C.Out k K0 x = C.F x) (hko:keepOut C.In.heap C.Out.heap = true:=by rfl):ConOk Tryz.prog n C:=con_of_ev (E:=mkEnv Tryz.prog tys eqs hs ow meths) (envOk tysOk eqsOk h follows methsOk) noOddP (fun x _ h=>⟨A,k,K0,(e x).trans h⟩) hko
noncomputable def executor_Machine_ExecuteBytesNC:Con:=⟨⟨[.npt,.pl (.sl (.int .u8))],[]⟩,⟨[.pl Y_api_Receipt],[]⟩,executor_Machine_ExecuteBytesN K0⟩
theorem ok100007:ConOk Tryz.prog 7 executor_Machine_ExecuteBytesNC:=mkOk (n:=7) (k:=200) (hs:=[]) (A:=fun _ _=>none) trivial (by intro x; kernel_rfl)
noncomputable def executor_Machine_StateNC:Con:=⟨⟨[.npt],[]⟩,⟨[.pl Y_api_State],[]⟩,executor_Machine_StateN K0⟩
theorem ok100008:ConOk Tryz.prog 8 executor_Machine_StateNC:=mkOk (n:=8) (k:=200) (hs:=[]) (A:=fun _ _=>none) trivial (by intro x; kernel_rfl)
noncomputable def pontagelaw0_EqualPostersC:Con:=⟨⟨[.pl (.sl Y_api_Poster),.pl (.sl Y_api_Poster)],[]⟩,⟨[.pl .bool],[]⟩,pontagelaw0_EqualPosters K0⟩
theorem ok51:ConOk Tryz.prog 51 pontagelaw0_EqualPostersC:=mkOk (n:=51) (k:=160) (hs:=[]) (A:=annL [([51],0,.tmpl ⟨(.pl (.sl Y_api_Poster) :: .pl (.sl Y_api_Poster) :: dd 3 (.pl (.int .i64) :: dd 20 [])),[]⟩)]) trivial (by intro x; kernel_rfl)
noncomputable def pontagelaw0_EqualPricerC:Con:=⟨⟨[.pl Y_api_Pricer,.pl Y_api_Pricer],[]⟩,⟨[.pl .bool],[]⟩,pontagelaw0_EqualPricer K0⟩
theorem ok30:ConOk Tryz.prog 30 pontagelaw0_EqualPricerC:=mkOk (n:=30) (k:=160) (hs:=[(51,.con pontagelaw0_EqualPostersC)]) (A:=fun _ _=>none) ⟨ok51,trivial⟩ (by intro x; kernel_rfl)
noncomputable def pontagelaw0_EqualAccountsC:Con:=⟨⟨[.pl (.sl Y_api_Account),.pl (.sl Y_api_Account)],[]⟩,⟨[.pl .bool],[]⟩,pontagelaw0_EqualAccounts K0⟩
theorem ok31:ConOk Tryz.prog 31 pontagelaw0_EqualAccountsC:=mkOk (n:=31) (k:=160) (hs:=[]) (A:=annL [([31],0,.tmpl ⟨(.pl (.sl Y_api_Account) :: .pl (.sl Y_api_Account) :: dd 3 (.pl (.int .i64) :: dd 20 [])),[]⟩)]) trivial (by intro x; kernel_rfl)
noncomputable def pontagelaw0_EqualMessagesC:Con:=⟨⟨[.pl (.sl Y_api_Report),.pl (.sl Y_api_Report)],[]⟩,⟨[.pl .bool],[]⟩,pontagelaw0_EqualMessages K0⟩
theorem ok32:ConOk Tryz.prog 32 pontagelaw0_EqualMessagesC:=mkOk (n:=32) (k:=160) (hs:=[]) (A:=annL [([32],0,.tmpl ⟨(.pl (.sl Y_api_Report) :: .pl (.sl Y_api_Report) :: dd 3 (.pl (.int .i64) :: dd 20 [])),[]⟩)]) trivial (by intro x; kernel_rfl)
noncomputable def pontagelaw0_EqualBoolsC:Con:=⟨⟨[.pl (.sl .bool),.pl (.sl .bool)],[]⟩,⟨[.pl .bool],[]⟩,pontagelaw0_EqualBools K0⟩
theorem ok33:ConOk Tryz.prog 33 pontagelaw0_EqualBoolsC:=mkOk (n:=33) (k:=160) (hs:=[]) (A:=annL [([33],0,.tmpl ⟨(.pl (.sl .bool) :: .pl (.sl .bool) :: dd 3 (.pl (.int .i64) :: dd 20 [])),[]⟩)]) trivial (by intro x; kernel_rfl)
noncomputable def pontagelaw0_EqualPaymentsC:Con:=⟨⟨[.pl (.sl Y_api_Payment),.pl (.sl Y_api_Payment)],[]⟩,⟨[.pl .bool],[]⟩,pontagelaw0_EqualPayments K0⟩
theorem ok34:ConOk Tryz.prog 34 pontagelaw0_EqualPaymentsC:=mkOk (n:=34) (k:=160) (hs:=[]) (A:=annL [([34],0,.tmpl ⟨(.pl (.sl Y_api_Payment) :: .pl (.sl Y_api_Payment) :: dd 3 (.pl (.int .i64) :: dd 20 [])),[]⟩)]) trivial (by intro x; kernel_rfl)
noncomputable def pontagelaw0_EqualStateC:Con:=⟨⟨[.pl Y_api_State,.pl Y_api_State],[]⟩,⟨[.pl .bool],[]⟩,pontagelaw0_EqualState K0⟩
theorem ok9:ConOk Tryz.prog 9 pontagelaw0_EqualStateC:=mkOk (n:=9) (k:=160) (hs:=[(30,.con pontagelaw0_EqualPricerC),(31,.con pontagelaw0_EqualAccountsC),(32,.con pontagelaw0_EqualMessagesC),(33,.con pontagelaw0_EqualBoolsC),(34,.con pontagelaw0_EqualPaymentsC)]) (A:=fun _ _=>none) ⟨ok30,ok31,ok32,ok33,ok34,trivial⟩ (by intro x; kernel_rfl)
noncomputable def executor_Machine_ClaimNC:Con:=⟨⟨[.npt,.pl (.int .u64)],[]⟩,⟨[.pl Y_api_Claim,.pl .bool],[]⟩,executor_Machine_ClaimN K0⟩
theorem ok100010:ConOk Tryz.prog 10 executor_Machine_ClaimNC:=mkOk (n:=10) (k:=200) (hs:=[]) (A:=annL [([1000000,10],4,.unroll 0)]) trivial (by intro x; kernel_rfl)
noncomputable def pontagelaw0_EqualReceiptC:Con:=⟨⟨[.pl Y_api_Receipt,.pl Y_api_Receipt],[]⟩,⟨[.pl .bool],[]⟩,pontagelaw0_EqualReceipt K0⟩
theorem ok11:ConOk Tryz.prog 11 pontagelaw0_EqualReceiptC:=mkOk (n:=11) (k:=160) (hs:=[(32,.con pontagelaw0_EqualMessagesC)]) (A:=fun _ _=>none) ⟨ok32,trivial⟩ (by intro x; kernel_rfl)
noncomputable def executor_Machine_ExecuteNC:Con:=⟨⟨[.npt,.pl Y_api_Step],[]⟩,⟨[.pl Y_api_Receipt],[]⟩,executor_Machine_ExecuteN K0⟩
theorem ok100012:ConOk Tryz.prog 12 executor_Machine_ExecuteNC:=mkOk (n:=12) (k:=200) (hs:=[]) (A:=annL [([1000000,12],8,.unroll 0)]) trivial (by intro x; kernel_rfl)
noncomputable def executor_Machine_StateHashNC:Con:=⟨⟨[.npt],[]⟩,⟨[.pl (.arr 32 (.int .u8))],[]⟩,executor_Machine_StateHashN K0⟩
theorem ok100013:ConOk Tryz.prog 13 executor_Machine_StateHashNC:=mkOk (n:=13) (k:=200) (hs:=[]) (A:=fun _ _=>none) trivial (by intro x; kernel_rfl)
noncomputable def uint256_FromUint64C:Con:=⟨⟨[.pl (.int .u64)],[]⟩,⟨[.pl u256],[]⟩,uint256_FromUint64 K0⟩
theorem ok40:ConOk Tryz.prog 40 uint256_FromUint64C:=mkOk (n:=40) (k:=60) (hs:=[]) (A:=fun _ _=>none) trivial (by intro x; kernel_rfl)
noncomputable def params_GenesisC:Con:=⟨⟨[],[]⟩,⟨[.pl Y_api_Params],[]⟩,params_Genesis K0⟩
theorem ok15:ConOk Tryz.prog 15 params_GenesisC:=mkOk (n:=15) (k:=60) (hs:=[(40,.con uint256_FromUint64C)]) (A:=fun _ _=>none) ⟨ok40,trivial⟩ (by intro x; kernel_rfl)
noncomputable def uint256_CmpC:Con:=⟨⟨[.pl u256,.pl u256],[]⟩,⟨[.pl (.int .i64)],[]⟩,uint256_Cmp⟩
theorem ok166:ConOk Tryz.prog 166 uint256_CmpC:=mkOk (n:=166) (k:=60) (hs:=[]) (A:=fun p _=>match p with | 1000000 :: _=>none | _=>some (.unroll 6)) trivial (by intro x; kernel_rfl)
noncomputable def params_GetC:Con:=⟨⟨[.pl Y_api_Params,.pl (.int .i64)],[]⟩,⟨[.pl u256,.pl (.int .i64)],[]⟩,params_Get K0⟩
theorem ok201:ConOk Tryz.prog 201 params_GetC:=mkOk (n:=201) (k:=90) (hs:=[(40,.con uint256_FromUint64C),(141,.inl),(142,.inl)]) (A:=fun _ _=>none) ⟨ok40,trivial⟩ (by intro x; kernel_rfl)
noncomputable def params_boundsC:Con:=⟨⟨[.pl Y_api_Params,.pl (.int .i64)],[]⟩,⟨[.pl (.int .u64),.pl (.int .u64)],[]⟩,params_bounds K0⟩
theorem ok202:ConOk Tryz.prog 202 params_boundsC:=mkOk (n:=202) (k:=60) (hs:=[]) (A:=annL [([1000000,202],12,.join ⟨(dd 2 (.ptr 0 [] :: dd 3 (.pl (.int .i64) :: dd 7 (.pl .bool :: dd 10 [])))),[.box Y_api_Params (.pl Y_api_Params)]⟩),([1000000,202],6,.join ⟨(dd 2 (.ptr 0 [] :: dd 3 (.pl (.int .i64) :: .pl .bool :: dd 17 []))),[.box Y_api_Params (.pl Y_api_Params)]⟩),([1000000,202],9,.join ⟨(dd 2 (.ptr 0 [] :: dd 3 (.pl (.int .i64) :: dd 4 (.pl .bool :: dd 13 [])))),[.box Y_api_Params (.pl Y_api_Params)]⟩)]) trivial (by intro x; kernel_rfl)
noncomputable def params_FirstInvalidC:Con:=⟨⟨[.pl Y_api_Params],[]⟩,⟨[.pl (.int .i64)],[]⟩,params_FirstInvalid K0⟩
theorem ok158:ConOk Tryz.prog 158 params_FirstInvalidC:=mkOk (n:=158) (k:=60) (hs:=[(40,.con uint256_FromUint64C),(166,.con uint256_CmpC),(201,.con params_GetC),(202,.con params_boundsC)]) (A:=annL [([158],0,.tmpl ⟨(dd 1 (.ptr 0 [] :: dd 1 (.pl (.int .i64) :: dd 33 []))),[.box Y_api_Params (.pl Y_api_Params)]⟩)]) ⟨ok40,ok166,ok201,ok202,trivial⟩ (by intro x; kernel_rfl)
noncomputable def params_ValidC:Con:=⟨⟨[.pl Y_api_Params],[]⟩,⟨[.pl .bool],[]⟩,params_Valid K0⟩
theorem ok101:ConOk Tryz.prog 101 params_ValidC:=mkOk (n:=101) (k:=60) (hs:=[(158,.con params_FirstInvalidC)]) (A:=fun _ _=>none) ⟨ok158,trivial⟩ (by intro x; kernel_rfl)
noncomputable def math_bits_Mul64C:Con:=⟨⟨[.pl (.int .u64),.pl (.int .u64)],[]⟩,⟨[.pl (.int .u64),.pl (.int .u64)],[]⟩,math_bits_Mul64 K0⟩
theorem ok102:ConOk Tryz.prog 102 math_bits_Mul64C:=mkOk (n:=102) (k:=60) (hs:=[]) (A:=fun _ _=>none) trivial (by intro x; kernel_rfl)
noncomputable def backlog_DrainC:Con:=⟨⟨[.pl (.int .u64),.pl (.int .u64),.pl (.int .u64)],[]⟩,⟨[.pl (.int .u64)],[]⟩,backlog_Drain K0⟩
theorem ok83:ConOk Tryz.prog 83 backlog_DrainC:=mkOk (n:=83) (k:=60) (hs:=[(102,.con math_bits_Mul64C)]) (A:=fun _ _=>none) ⟨ok102,trivial⟩ (by intro x; kernel_rfl)
noncomputable def backlog_ExcessC:Con:=⟨⟨[.pl (.int .u64),.pl (.int .u64),.pl (.int .u64)],[]⟩,⟨[.pl (.int .u64)],[]⟩,backlog_Excess K0⟩
theorem ok103:ConOk Tryz.prog 103 backlog_ExcessC:=mkOk (n:=103) (k:=60) (hs:=[(83,.con backlog_DrainC)]) (A:=fun _ _=>none) ⟨ok83,trivial⟩ (by intro x; kernel_rfl)
noncomputable def math_bits_Len64C:Con:=⟨⟨[.pl (.int .u64)],[]⟩,⟨[.pl (.int .i64)],[]⟩,math_bits_Len64 K0⟩
theorem ok203:ConOk Tryz.prog 203 math_bits_Len64C:=mkOk (n:=203) (k:=60) (hs:=[]) (A:=annL [([1000000,203],5,.join ⟨(.pl (.int .u64) :: dd 1 (.pl (.int .i64) :: dd 22 [])),[]⟩),([1000000,203],8,.join ⟨(.pl (.int .u64) :: dd 1 (.pl (.int .i64) :: dd 22 [])),[]⟩)]) trivial (by intro x; kernel_rfl)
noncomputable def math_bits_LeadingZeros64C:Con:=⟨⟨[.pl (.int .u64)],[]⟩,⟨[.pl (.int .i64)],[]⟩,math_bits_LeadingZeros64 K0⟩
theorem ok159:ConOk Tryz.prog 159 math_bits_LeadingZeros64C:=mkOk (n:=159) (k:=60) (hs:=[(203,.con math_bits_Len64C)]) (A:=fun _ _=>none) ⟨ok203,trivial⟩ (by intro x; kernel_rfl)
noncomputable def math_bits_Div64C:Con:=⟨⟨[.pl (.int .u64),.pl (.int .u64),.pl (.int .u64)],[]⟩,⟨[.pl (.int .u64),.pl (.int .u64)],[]⟩,math_bits_Div64 K0⟩
theorem ok104:ConOk Tryz.prog 104 math_bits_Div64C:=mkOk (n:=104) (k:=60) (hs:=[(159,.con math_bits_LeadingZeros64C)]) (A:=annL [([1000000,104],19,.join ⟨(dd 2 (.pl (.int .u64) :: dd 5 (.pl (.int .u64) :: .pl (.int .u64) :: .pl (.int .u64) :: .pl (.int .u64) :: dd 1 (.pl (.int .u64) :: .pl (.int .u64) :: .pl (.int .u64) :: .pl (.int .u64) :: dd 118 [])))),[]⟩),([1000000,104],22,.join ⟨(dd 2 (.pl (.int .u64) :: dd 5 (.pl (.int .u64) :: .pl (.int .u64) :: .pl (.int .u64) :: .pl (.int .u64) :: dd 1 (.pl (.int .u64) :: .pl (.int .u64) :: .pl (.int .u64) :: dd 119 [])))),[]⟩),([1000000,104],26,.join ⟨(dd 2 (.pl (.int .u64) :: dd 5 (.pl (.int .u64) :: .pl (.int .u64) :: .pl (.int .u64) :: dd 3 (.pl (.int .u64) :: .pl (.int .u64) :: .pl (.int .u64) :: .pl (.int .u64) :: .pl (.int .u64) :: dd 116 [])))),[]⟩),([1000000,104],29,.join ⟨(dd 2 (.pl (.int .u64) :: dd 5 (.pl (.int .u64) :: dd 5 (.pl (.int .u64) :: .pl (.int .u64) :: dd 1 (.pl (.int .u64) :: .pl (.int .u64) :: dd 116 []))))),[]⟩),([1000000,104],4,.join ⟨(.pl (.int .u64) :: .pl (.int .u64) :: .pl (.int .u64) :: dd 132 []),[]⟩),([1000000,104],6,.join ⟨(.pl (.int .u64) :: .pl (.int .u64) :: .pl (.int .u64) :: dd 132 []),[]⟩),([104],0,.tmpl ⟨(dd 2 (.pl (.int .u64) :: dd 5 (.pl (.int .u64) :: .pl (.int .u64) :: .pl (.int .u64) :: .pl (.int .u64) :: dd 1 (.pl (.int .u64) :: .pl (.int .u64) :: .pl (.int .u64) :: .pl (.int .u64) :: dd 118 [])))),[]⟩),([104],2,.tmpl ⟨(dd 2 (.pl (.int .u64) :: dd 5 (.pl (.int .u64) :: .pl (.int .u64) :: .pl (.int .u64) :: dd 3 (.pl (.int .u64) :: .pl (.int .u64) :: .pl (.int .u64) :: .pl (.int .u64) :: .pl (.int .u64) :: dd 116 [])))),[]⟩)]) ⟨ok159,trivial⟩ (by intro x; kernel_rfl)
noncomputable def basefee_ExponentC:Con:=⟨⟨[.pl (.int .u64),.pl Y_api_Params],[]⟩,⟨[.pl (.int .u64),.pl (.int .i64)],[]⟩,basefee_Exponent K0⟩
theorem ok62:ConOk Tryz.prog 62 basefee_ExponentC:=mkOk (n:=62) (k:=60) (hs:=[(101,.con params_ValidC),(102,.con math_bits_Mul64C),(103,.con backlog_ExcessC),(104,.con math_bits_Div64C)]) (A:=fun _ _=>none) ⟨ok101,ok102,ok103,ok104,trivial⟩ (by intro x; kernel_rfl)
noncomputable def bips_ExpC:Con:=⟨⟨[.pl (.int .u64),.pl (.int .i64)],[]⟩,⟨[.pl (.int .u64),.pl (.int .i64)],[]⟩,bips_Exp K0⟩
theorem ok105:ConOk Tryz.prog 105 bips_ExpC:=mkOk (n:=105) (k:=60) (hs:=[]) (A:=annL [([1000000,105],4,.join ⟨(.pl (.int .u64) :: .pl (.int .i64) :: dd 30 []),[]⟩),([105],0,.tmpl ⟨(.pl (.int .u64) :: dd 5 (.pl (.int .u64) :: .pl (.int .i64) :: dd 24 [])),[]⟩)]) trivial (by intro x; kernel_rfl)
theorem ok121:ConOk Tryz.prog 121 add64C:=add64_ok (fn:=Tryz.f121) (by kernel_rfl) (by kernel_rfl) (by kernel_rfl) (by kernel_rfl) (by kernel_rfl)
noncomputable def muldiv_MulC:Con:=⟨⟨[.pl u256,.pl u256],[]⟩,⟨[.pl u256,.pl u256],[]⟩,muldiv_Mul K0⟩
theorem ok204:ConOk Tryz.prog 204 muldiv_MulC:=mkOk (n:=204) (k:=60) (hs:=[(102,.con math_bits_Mul64C),(121,.con add64C)]) (A:=annL [([204],0,.tmpl ⟨(dd 2 (.ptr 0 [] :: .ptr 1 [] :: .ptr 2 [] :: .ptr 3 [] :: .ptr 4 [] :: dd 6 (.pl (.int .i64) :: dd 55 []))),[.box u256 (.pl u256),.box u256 (.pl u256),.box u256 (.pl u256),.box u256 (.pl u256),.box (.arr 8 (.int .u64)) (.pl (.arr 8 (.int .u64)))]⟩),([204],2,.tmpl ⟨(dd 2 (.ptr 0 [] :: .ptr 1 [] :: .ptr 2 [] :: .ptr 3 [] :: .ptr 4 [] :: .pl (.int .i64) :: .pl (.int .u64) :: dd 4 (.pl (.int .i64) :: dd 2 (.pl (.int .i64) :: dd 52 [])))),[.box u256 (.pl u256),.box u256 (.pl u256),.box u256 (.pl u256),.box u256 (.pl u256),.box (.arr 8 (.int .u64)) (.pl (.arr 8 (.int .u64)))]⟩)]) ⟨ok102,ok121,trivial⟩ (by intro x; kernel_rfl)
noncomputable def muldiv_shiftLeftC:Con:=⟨⟨[.pl u256,.pl (.int .u64)],[]⟩,⟨[.pl u256,.pl (.int .u64)],[]⟩,muldiv_shiftLeft K0⟩
theorem ok231:ConOk Tryz.prog 231 muldiv_shiftLeftC:=mkOk (n:=231) (k:=60) (hs:=[]) (A:=annL [([231],0,.tmpl ⟨(dd 1 (.pl (.int .u64) :: .ptr 0 [] :: dd 1 (.ptr 1 [] :: dd 1 (.pl (.int .u64) :: .pl (.int .i64) :: dd 27 [])))),[.box u256 (.pl u256),.box u256 (.pl u256)]⟩)]) trivial (by intro x; kernel_rfl)
theorem ok187:ConOk Tryz.prog 187 sub64C:=sub64_ok (fn:=Tryz.f187) (by kernel_rfl) (by kernel_rfl) (by kernel_rfl) (by kernel_rfl) (by kernel_rfl)
noncomputable def muldiv_subWrapC:Con:=⟨⟨[.pl u256,.pl u256],[]⟩,⟨[.pl u256],[]⟩,muldiv_subWrap K0⟩
theorem ok232:ConOk Tryz.prog 232 muldiv_subWrapC:=mkOk (n:=232) (k:=60) (hs:=[(187,.con sub64C)]) (A:=annL [([232],0,.tmpl ⟨(dd 2 (.ptr 0 [] :: .ptr 1 [] :: .ptr 2 [] :: .pl (.int .u64) :: dd 1 (.pl (.int .i64) :: dd 17 []))),[.box u256 (.pl u256),.box u256 (.pl u256),.box u256 (.pl u256)]⟩)]) ⟨ok187,trivial⟩ (by intro x; kernel_rfl)
noncomputable def muldiv_Div512C:Con:=⟨⟨[.pl u256,.pl u256,.pl u256],[]⟩,⟨[.pl u256,.pl u256,.pl (.int .i64)],[]⟩,muldiv_Div512 K0⟩
theorem ok205:ConOk Tryz.prog 205 muldiv_Div512C:=mkOk (n:=205) (k:=60) (hs:=[(166,.con uint256_CmpC),(231,.con muldiv_shiftLeftC),(232,.con muldiv_subWrapC)]) (A:=annL [([1000000,205],13,.join ⟨(dd 3 (.ptr 0 [] :: dd 1 (.ptr 1 [] :: .ptr 2 [] :: .ptr 3 [] :: dd 1 (.pl (.int .i64) :: dd 37 (.pl .bool :: dd 14 []))))),[.box u256 (.pl u256),.box u256 (.pl u256),.box u256 (.pl u256),.box u256 (.pl u256)]⟩),([205],0,.tmpl ⟨(dd 3 (.ptr 0 [] :: dd 1 (.ptr 1 [] :: .ptr 2 [] :: .ptr 3 [] :: dd 1 (.pl (.int .i64) :: dd 52 [])))),[.box u256 (.pl u256),.box u256 (.pl u256),.box u256 (.pl u256),.box u256 (.pl u256)]⟩)]) ⟨ok166,ok231,ok232,trivial⟩ (by intro x; kernel_rfl)
noncomputable def muldiv_MulDivFloorC:Con:=⟨⟨[.pl u256,.pl u256,.pl u256],[]⟩,⟨[.pl u256,.pl (.int .i64)],[]⟩,muldiv_MulDivFloor K0⟩
theorem ok160:ConOk Tryz.prog 160 muldiv_MulDivFloorC:=mkOk (n:=160) (k:=60) (hs:=[(204,.con muldiv_MulC),(205,.con muldiv_Div512C)]) (A:=fun _ _=>none) ⟨ok204,ok205,trivial⟩ (by intro x; kernel_rfl)
noncomputable def bips_ScaleC:Con:=⟨⟨[.pl u256,.pl (.int .u64)],[]⟩,⟨[.pl u256,.pl (.int .i64)],[]⟩,bips_Scale K0⟩
theorem ok106:ConOk Tryz.prog 106 bips_ScaleC:=mkOk (n:=106) (k:=60) (hs:=[(40,.con uint256_FromUint64C),(160,.con muldiv_MulDivFloorC)]) (A:=fun _ _=>none) ⟨ok40,ok160,trivial⟩ (by intro x; kernel_rfl)
noncomputable def bips_ScaleExpC:Con:=⟨⟨[.pl u256,.pl (.int .u64),.pl (.int .i64)],[]⟩,⟨[.pl u256,.pl (.int .i64)],[]⟩,bips_ScaleExp K0⟩
theorem ok63:ConOk Tryz.prog 63 bips_ScaleExpC:=mkOk (n:=63) (k:=60) (hs:=[(105,.con bips_ExpC),(106,.con bips_ScaleC)]) (A:=fun _ _=>none) ⟨ok105,ok106,trivial⟩ (by intro x; kernel_rfl)
noncomputable def basefee_FeeC:Con:=⟨⟨[.pl (.int .u64),.pl Y_api_Params],[]⟩,⟨[.pl u256,.pl (.int .i64)],[]⟩,basefee_Fee K0⟩
theorem ok41:ConOk Tryz.prog 41 basefee_FeeC:=mkOk (n:=41) (k:=60) (hs:=[(62,.con basefee_ExponentC),(63,.con bips_ScaleExpC)]) (A:=fun _ _=>none) ⟨ok62,ok63,trivial⟩ (by intro x; kernel_rfl)
noncomputable def block_GenesisC:Con:=⟨⟨[.pl Y_api_Params],[]⟩,⟨[.pl Y_api_Block,.pl (.int .i64)],[]⟩,block_Genesis K0⟩
theorem ok16:ConOk Tryz.prog 16 block_GenesisC:=mkOk (n:=16) (k:=60) (hs:=[(41,.con basefee_FeeC)]) (A:=fun _ _=>none) ⟨ok41,trivial⟩ (by intro x; kernel_rfl)
noncomputable def pricer_GenesisC:Con:=⟨⟨[],[]⟩,⟨[.pl Y_api_Pricer],[]⟩,pricer_Genesis K0⟩
theorem ok17:ConOk Tryz.prog 17 pricer_GenesisC:=mkOk (n:=17) (k:=60) (hs:=[(40,.con uint256_FromUint64C)]) (A:=fun _ _=>none) ⟨ok40,trivial⟩ (by intro x; kernel_rfl)
noncomputable def ledger_NewC:Con:=⟨⟨[],[]⟩,⟨[.ptr 0 []],H_ledger_Ledger⟩,ledger_New K0⟩
theorem ok18:ConOk Tryz.prog 18 ledger_NewC:=mkOk (n:=18) (k:=140) (hs:=[]) (A:=fun _ _=>none) trivial (by intro x; kernel_rfl)
noncomputable def merkle_NewC:Con:=⟨⟨[],[]⟩,⟨[.ptr 0 []],H_merkle_Tree⟩,merkle_New K0⟩
theorem ok42:ConOk Tryz.prog 42 merkle_NewC:=mkOk (n:=42) (k:=140) (hs:=[]) (A:=fun _ _=>none) trivial (by intro x; kernel_rfl)
noncomputable def outbox_NewC:Con:=⟨⟨[],[]⟩,⟨[.ptr 0 []],H_outbox_Outbox⟩,outbox_New K0⟩
theorem ok19:ConOk Tryz.prog 19 outbox_NewC:=mkOk (n:=19) (k:=140) (hs:=[(42,.con merkle_NewC)]) (A:=fun _ _=>none) ⟨ok42,trivial⟩ (by intro x; kernel_rfl)
noncomputable def escrow_NewC:Con:=⟨⟨[],[]⟩,⟨[.ptr 0 []],H_escrow_Escrow⟩,escrow_New K0⟩
theorem ok20:ConOk Tryz.prog 20 escrow_NewC:=mkOk (n:=20) (k:=140) (hs:=[]) (A:=fun _ _=>none) trivial (by intro x; kernel_rfl)
noncomputable def executor_NewC:Con:=⟨⟨[],[]⟩,⟨[.ptr 0 []],H_executor_Machine⟩,executor_New K0⟩
theorem ok6:ConOk Tryz.prog 6 executor_NewC:=mkOk (n:=6) (k:=140) (hs:=[(15,.con params_GenesisC),(16,.con block_GenesisC),(17,.con pricer_GenesisC),(18,.con ledger_NewC),(19,.con outbox_NewC),(20,.con escrow_NewC)]) (A:=fun _ _=>none) ⟨ok15,ok16,ok17,ok18,ok19,ok20,trivial⟩ (by intro x; kernel_rfl)
noncomputable def executor_Machine_countC:Con:=⟨⟨[.ptr 0 []],H_executor_Machine⟩,⟨[],H_executor_Machine⟩,executor_Machine_count K0⟩
theorem ok22:ConOk Tryz.prog 22 executor_Machine_countC:=mkOk (n:=22) (k:=140) (hs:=[]) (A:=fun _ _=>none) trivial (by intro x; kernel_rfl)
noncomputable def ledger_Ledger_findC:Con:=⟨⟨[.bp Y_ledger_Ledger,.pl (.int .u64)],[]⟩,⟨[.pl (.int .i64),.pl .bool],[]⟩,ledger_Ledger_find K0⟩
theorem ok173:ConOk Tryz.prog 173 ledger_Ledger_findC:=mkOk (n:=173) (k:=200) (hs:=[(195,.inl),(211,.inl),(212,.inl),(229,.inl)]) (A:=annL [([211,1,5,173],0,.tmpl ⟨(.pl (.sl Y_api_Account) :: .pl (.int .u64) :: .fn 212 :: dd 5 (.pl (.int .i64) :: .pl (.int .i64) :: .pl (.int .i64) :: dd 52 [])),[]⟩)]) trivial (by intro x; kernel_rfl)
noncomputable def ledger_Ledger_getC:Con:=⟨⟨[.bp Y_ledger_Ledger,.pl (.int .u64)],[]⟩,⟨[.pl Y_api_Account],[]⟩,ledger_Ledger_get K0⟩
theorem ok126:ConOk Tryz.prog 126 ledger_Ledger_getC:=mkOk (n:=126) (k:=140) (hs:=[(173,.con ledger_Ledger_findC)]) (A:=fun _ _=>none) ⟨ok173,trivial⟩ (by intro x; kernel_rfl)
noncomputable def ledger_Ledger_NonceC:Con:=⟨⟨[.bp Y_ledger_Ledger,.pl (.int .u64)],[]⟩,⟨[.pl (.int .u64)],[]⟩,ledger_Ledger_Nonce K0⟩
theorem ok114:ConOk Tryz.prog 114 ledger_Ledger_NonceC:=mkOk (n:=114) (k:=140) (hs:=[(126,.con ledger_Ledger_getC)]) (A:=fun _ _=>none) ⟨ok126,trivial⟩ (by intro x; kernel_rfl)
noncomputable def uint256_AddC:Con:=⟨⟨[.pl u256,.pl u256],[]⟩,⟨[.pl u256,.pl (.int .i64)],[]⟩,uint256_Add⟩
theorem ok87:ConOk Tryz.prog 87 uint256_AddC:=mkOk (n:=87) (k:=60) (hs:=[(121,.con add64C)]) (A:=fun p _=>match p with | 1000000 :: _=>none | _=>some (.unroll 6)) ⟨ok121,trivial⟩ (by intro x; kernel_rfl)
noncomputable def uint256_SubC:Con:=⟨⟨[.pl u256,.pl u256],[]⟩,⟨[.pl u256,.pl (.int .i64)],[]⟩,uint256_Sub⟩
theorem ok136:ConOk Tryz.prog 136 uint256_SubC:=mkOk (n:=136) (k:=60) (hs:=[(187,.con sub64C)]) (A:=fun p _=>match p with | 1000000 :: _=>none | _=>some (.unroll 6)) ⟨ok187,trivial⟩ (by intro x; kernel_rfl)
noncomputable def uint256_MinC:Con:=⟨⟨[.pl u256,.pl (.sl u256)],[]⟩,⟨[.pl u256],[]⟩,uint256_Min K0⟩
theorem ok164:ConOk Tryz.prog 164 uint256_MinC:=mkOk (n:=164) (k:=60) (hs:=[(166,.con uint256_CmpC)]) (A:=annL [([164],0,.tmpl ⟨(dd 2 (.ptr 0 [] :: dd 1 (.ptr 1 [] :: dd 2 (.pl (.sl u256) :: .pl (.int .i64) :: .pl (.int .i64) :: dd 10 [])))),[.box u256 (.pl u256),.box u256 (.pl u256)]⟩)]) ⟨ok166,trivial⟩ (by intro x; kernel_rfl)
noncomputable def txfee_GasPriceC:Con:=⟨⟨[.pl Y_api_Transaction,.pl u256],[]⟩,⟨[.pl u256,.pl (.int .i64)],[]⟩,txfee_GasPrice K0⟩
theorem ok115:ConOk Tryz.prog 115 txfee_GasPriceC:=mkOk (n:=115) (k:=60) (hs:=[(87,.con uint256_AddC),(136,.con uint256_SubC),(164,.con uint256_MinC)]) (A:=fun _ _=>none) ⟨ok87,ok136,ok164,trivial⟩ (by intro x; kernel_rfl)
noncomputable def block_GasRemainingC:Con:=⟨⟨[.pl Y_api_Block,.pl Y_api_Params],[]⟩,⟨[.pl (.int .u64)],[]⟩,block_GasRemaining K0⟩
theorem ok116:ConOk Tryz.prog 116 block_GasRemainingC:=mkOk (n:=116) (k:=60) (hs:=[]) (A:=fun _ _=>none) trivial (by intro x; kernel_rfl)
noncomputable def uint256_MulC:Con:=⟨⟨[.pl u256,.pl u256],[]⟩,⟨[.pl u256,.pl (.int .i64)],[]⟩,uint256_Mul K0⟩
theorem ok165:ConOk Tryz.prog 165 uint256_MulC:=mkOk (n:=165) (k:=60) (hs:=[(102,.con math_bits_Mul64C),(121,.con add64C)]) (A:=annL [([165],0,.tmpl ⟨(dd 2 (.ptr 0 [] :: .ptr 1 [] :: .ptr 2 [] :: dd 1 (.ptr 3 [] :: dd 6 (.pl (.int .i64) :: dd 56 [])))),[.box u256 (.pl u256),.box u256 (.pl u256),.box u256 (.pl u256),.box u256 (.pl u256)]⟩),([165],2,.tmpl ⟨(dd 2 (.ptr 0 [] :: .ptr 1 [] :: .ptr 2 [] :: dd 1 (.ptr 3 [] :: .pl (.int .i64) :: .pl (.int .u64) :: dd 4 (.pl (.int .i64) :: dd 2 (.pl (.int .i64) :: dd 53 []))))),[.box u256 (.pl u256),.box u256 (.pl u256),.box u256 (.pl u256),.box u256 (.pl u256)]⟩)]) ⟨ok102,ok121,trivial⟩ (by intro x; kernel_rfl)
noncomputable def txfee_CoversC:Con:=⟨⟨[.pl Y_api_Transaction,.pl u256,.pl u256],[]⟩,⟨[.pl .bool],[]⟩,txfee_Covers K0⟩
theorem ok117:ConOk Tryz.prog 117 txfee_CoversC:=mkOk (n:=117) (k:=60) (hs:=[(40,.con uint256_FromUint64C),(87,.con uint256_AddC),(165,.con uint256_MulC),(166,.con uint256_CmpC)]) (A:=fun _ _=>none) ⟨ok40,ok87,ok165,ok166,trivial⟩ (by intro x; kernel_rfl)
noncomputable def ledger_Ledger_BalanceC:Con:=⟨⟨[.bp Y_ledger_Ledger,.pl (.int .u64)],[]⟩,⟨[.pl u256],[]⟩,ledger_Ledger_Balance K0⟩
theorem ok118:ConOk Tryz.prog 118 ledger_Ledger_BalanceC:=mkOk (n:=118) (k:=140) (hs:=[(126,.con ledger_Ledger_getC)]) (A:=fun _ _=>none) ⟨ok126,trivial⟩ (by intro x; kernel_rfl)
noncomputable def uint256_Uint64C:Con:=⟨⟨[.pl u256],[]⟩,⟨[.pl (.int .u64),.pl .bool],[]⟩,uint256_Uint64 K0⟩
theorem ok140:ConOk Tryz.prog 140 uint256_Uint64C:=mkOk (n:=140) (k:=60) (hs:=[]) (A:=fun _ _=>none) trivial (by intro x; kernel_rfl)
noncomputable def lz_matchLenC:Con:=⟨⟨[.pl (.sl (.int .u8)),.pl (.int .i64),.pl (.int .i64),.pl (.int .i64)],[]⟩,⟨[.pl (.int .i64)],[]⟩,lz_matchLen K0⟩
theorem ok250:ConOk Tryz.prog 250 lz_matchLenC:=mkOk (n:=250) (k:=60) (hs:=[]) (A:=annL [([250],0,.tmpl ⟨(.pl (.sl (.int .u8)) :: .pl (.int .i64) :: .pl (.int .i64) :: .pl (.int .i64) :: dd 5 (.pl (.int .i64) :: dd 23 [])),[]⟩)]) trivial (by intro x; kernel_rfl)
noncomputable def lz_longestMatchC:Con:=⟨⟨[.pl (.sl (.int .u8)),.pl (.int .i64)],[]⟩,⟨[.pl (.int .i64),.pl (.int .i64)],[]⟩,lz_longestMatch K0⟩
theorem ok245:ConOk Tryz.prog 245 lz_longestMatchC:=mkOk (n:=245) (k:=60) (hs:=[(250,.con lz_matchLenC)]) (A:=annL [([1000000,245],6,.join ⟨(.pl (.sl (.int .u8)) :: .pl (.int .i64) :: dd 2 (.pl (.int .i64) :: .pl (.int .i64) :: .pl (.int .i64) :: .pl (.int .i64) :: dd 11 (.pl (.int .i64) :: .pl (.int .i64) :: .pl .bool :: dd 15 []))),[]⟩),([245],0,.tmpl ⟨(.pl (.sl (.int .u8)) :: .pl (.int .i64) :: dd 2 (.pl (.int .i64) :: .pl (.int .i64) :: .pl (.int .i64) :: .pl (.int .i64) :: dd 29 [])),[]⟩)]) ⟨ok250,trivial⟩ (by intro x; kernel_rfl)
noncomputable def lz_CompressC:Con:=⟨⟨[.pl (.sl (.int .u8))],[]⟩,⟨[.pl (.sl (.int .u8))],[]⟩,lz_Compress K0⟩
theorem ok233:ConOk Tryz.prog 233 lz_CompressC:=mkOk (n:=233) (k:=90) (hs:=[(245,.con lz_longestMatchC),(246,.inl)]) (A:=annL [([233],0,.tmpl ⟨(.pl (.sl (.int .u8)) :: dd 2 (.whole 0 :: .pl (.int .i64) :: .pl (.int .i64) :: dd 44 [])),[.row (.int .u8)]⟩),([246,11,4,233],0,.tmpl ⟨(.whole 0 :: .pl (.sl (.int .u8)) :: dd 73 []),[.row (.int .u8)]⟩),([246,7,5,233],0,.tmpl ⟨(.whole 0 :: .pl (.sl (.int .u8)) :: dd 23 (.pl (.sl (.int .u8)) :: dd 4 (.pl (.int .i64) :: .pl (.int .i64) :: .pl (.int .i64) :: dd 42 []))),[.row (.int .u8)]⟩)]) ⟨ok245,trivial⟩ (by intro x; kernel_rfl)
noncomputable def sizeest_UnitsC:Con:=⟨⟨[.pl (.sl (.int .u8)),.pl (.int .u64),.pl (.int .u64)],[]⟩,⟨[.pl (.int .u64),.pl (.int .i64)],[]⟩,sizeest_Units K0⟩
theorem ok206:ConOk Tryz.prog 206 sizeest_UnitsC:=mkOk (n:=206) (k:=60) (hs:=[(233,.con lz_CompressC)]) (A:=fun _ _=>none) ⟨ok233,trivial⟩ (by intro x; kernel_rfl)
noncomputable def sizeest_CostC:Con:=⟨⟨[.pl (.int .u64),.pl u256],[]⟩,⟨[.pl u256,.pl (.int .i64)],[]⟩,sizeest_Cost K0⟩
theorem ok207:ConOk Tryz.prog 207 sizeest_CostC:=mkOk (n:=207) (k:=60) (hs:=[(40,.con uint256_FromUint64C),(165,.con uint256_MulC)]) (A:=fun _ _=>none) ⟨ok40,ok165,trivial⟩ (by intro x; kernel_rfl)
noncomputable def muldiv_DivModC:Con:=⟨⟨[.pl u256,.pl u256],[]⟩,⟨[.pl u256,.pl u256,.pl (.int .i64)],[]⟩,muldiv_DivMod K0⟩
theorem ok208:ConOk Tryz.prog 208 muldiv_DivModC:=mkOk (n:=208) (k:=60) (hs:=[(205,.con muldiv_Div512C)]) (A:=fun _ _=>none) ⟨ok205,trivial⟩ (by intro x; kernel_rfl)
noncomputable def txfee_meterC:Con:=⟨⟨[.pl Y_api_Transaction,.pl u256,.pl u256,.pl Y_api_Params],[]⟩,⟨[.pl Y_api_Charge,.pl (.int .i64)],[]⟩,txfee_meter K0⟩
theorem ok167:ConOk Tryz.prog 167 txfee_meterC:=mkOk (n:=167) (k:=60) (hs:=[(140,.con uint256_Uint64C),(206,.con sizeest_UnitsC),(207,.con sizeest_CostC),(208,.con muldiv_DivModC)]) (A:=annL [([1000000,167],14,.join ⟨(dd 4 (.ptr 0 [] :: dd 3 (.ptr 1 [] :: dd 1 (.pl (.int .u64) :: dd 4 (.pl (.int .u64) :: dd 69 []))))),[.box Y_api_Transaction (.pl Y_api_Transaction),.box Y_api_Charge (.pl Y_api_Charge)]⟩)]) ⟨ok140,ok206,ok207,ok208,trivial⟩ (by intro x; kernel_rfl)
noncomputable def uint256_SaturatingSubC:Con:=⟨⟨[.pl u256,.pl u256],[]⟩,⟨[.pl u256],[]⟩,uint256_SaturatingSub K0⟩
theorem ok168:ConOk Tryz.prog 168 uint256_SaturatingSubC:=mkOk (n:=168) (k:=60) (hs:=[(136,.con uint256_SubC)]) (A:=fun _ _=>none) ⟨ok136,trivial⟩ (by intro x; kernel_rfl)
noncomputable def bips_SplitC:Con:=⟨⟨[.pl u256,.pl (.int .u64)],[]⟩,⟨[.pl u256,.pl u256,.pl (.int .i64)],[]⟩,bips_Split K0⟩
theorem ok209:ConOk Tryz.prog 209 bips_SplitC:=mkOk (n:=209) (k:=60) (hs:=[(106,.con bips_ScaleC),(168,.con uint256_SaturatingSubC)]) (A:=fun _ _=>none) ⟨ok106,ok168,trivial⟩ (by intro x; kernel_rfl)
noncomputable def txfee_distributeC:Con:=⟨⟨[.pl Y_api_Charge,.pl u256,.pl Y_api_Params],[]⟩,⟨[.pl Y_api_Charge,.pl (.int .i64)],[]⟩,txfee_distribute K0⟩
theorem ok169:ConOk Tryz.prog 169 txfee_distributeC:=mkOk (n:=169) (k:=60) (hs:=[(40,.con uint256_FromUint64C),(87,.con uint256_AddC),(164,.con uint256_MinC),(165,.con uint256_MulC),(168,.con uint256_SaturatingSubC),(209,.con bips_SplitC)]) (A:=annL [([1000000,169],8,.join ⟨(dd 3 (.ptr 0 [] :: dd 1 (.ptr 1 [] :: .ptr 2 [] :: dd 1 (.ptr 3 [] :: dd 1 (.ptr 4 [] :: dd 1 (.ptr 5 [] :: dd 1 (.ptr 6 [] :: dd 89 []))))))),[.box Y_api_Charge (.pl Y_api_Charge),.box Y_api_Params (.pl Y_api_Params),.box Y_api_Charge (.pl Y_api_Charge),.box u256 (.pl u256),.box u256 (.pl u256),.box u256 (.pl u256),.box u256 (.pl u256)]⟩)]) ⟨ok40,ok87,ok164,ok165,ok168,ok209,trivial⟩ (by intro x; kernel_rfl)
noncomputable def txfee_ComputeC:Con:=⟨⟨[.pl Y_api_Transaction,.pl u256,.pl u256,.pl Y_api_Params],[]⟩,⟨[.pl Y_api_Charge,.pl (.int .i64)],[]⟩,txfee_Compute K0⟩
theorem ok119:ConOk Tryz.prog 119 txfee_ComputeC:=mkOk (n:=119) (k:=60) (hs:=[(101,.con params_ValidC),(115,.con txfee_GasPriceC),(167,.con txfee_meterC),(168,.con uint256_SaturatingSubC),(169,.con txfee_distributeC)]) (A:=fun _ _=>none) ⟨ok101,ok115,ok167,ok168,ok169,trivial⟩ (by intro x; kernel_rfl)
noncomputable def executor_Machine_checkTransactionC:Con:=⟨⟨[.ptr 0 [],.pl Y_api_Transaction],H_executor_Machine⟩,⟨[.pl u256,.pl Y_api_Charge,.pl (.int .i64)],H_executor_Machine⟩,executor_Machine_checkTransaction K0⟩
theorem ok71:ConOk Tryz.prog 71 executor_Machine_checkTransactionC:=mkOk (n:=71) (k:=140) (hs:=[(114,.con ledger_Ledger_NonceC),(115,.con txfee_GasPriceC),(116,.con block_GasRemainingC),(117,.con txfee_CoversC),(118,.con ledger_Ledger_BalanceC),(119,.con txfee_ComputeC)]) (A:=annL [([1000000,71],11,.join ⟨(.ptr 0 [] :: dd 2 (.ptr 11 [] :: .ptr 12 [] :: .ptr 13 [] :: dd 114 (.ptr 0 [] :: .ptr 1 [] :: .ptr 3 [] :: .ptr 5 [] :: .ptr 7 [] :: []))),[.box Y_executor_Machine ((.pair (.pl (.int .u64)) ((.pair (.pl Y_api_Params) ((.pair (.pl Y_api_Block) ((.pair (.pl (.int .u64)) ((.pair (.pl Y_api_Pricer) ((.pair (.ptr 1 []) ((.pair (.ptr 3 []) ((.pair (.ptr 7 []) (.pl .nil))))))))))))))))),.box Y_ledger_Ledger ((.pair (.whole 2) (.pl (.cons (.arr 4 u256) .nil)))),.row Y_api_Account,.box Y_outbox_Outbox ((.pair (.whole 4) ((.pair (.ptr 5 []) (.pl .nil))))),.row Y_api_Report,.box (.cons (.sl (.arr 32 (.int .u8))) .nil) ((.pair (.whole 6) (.pl .nil))),.row (.arr 32 (.int .u8)),.box Y_escrow_Escrow ((.pair (.whole 8) ((.pair (.whole 9) ((.pair (.pl u256) ((.pair (.whole 10) (.pl .nil))))))))),.row (.arr 32 (.int .u8)),.row .bool,.row Y_api_Payment,.box Y_api_Transaction (.pl Y_api_Transaction),.box u256 (.pl u256),.box Y_api_Charge (.pl Y_api_Charge)]⟩),([1000000,71],6,.join ⟨(.ptr 0 [] :: dd 2 (.ptr 11 [] :: .ptr 12 [] :: .ptr 13 [] :: dd 1 (.pl (.int .u64) :: dd 17 (.pl .bool :: dd 94 (.ptr 0 [] :: .ptr 1 [] :: .ptr 3 [] :: .ptr 5 [] :: .ptr 7 [] :: []))))),[.box Y_executor_Machine ((.pair (.pl (.int .u64)) ((.pair (.pl Y_api_Params) ((.pair (.pl Y_api_Block) ((.pair (.pl (.int .u64)) ((.pair (.pl Y_api_Pricer) ((.pair (.ptr 1 []) ((.pair (.ptr 3 []) ((.pair (.ptr 7 []) (.pl .nil))))))))))))))))),.box Y_ledger_Ledger ((.pair (.whole 2) (.pl (.cons (.arr 4 u256) .nil)))),.row Y_api_Account,.box Y_outbox_Outbox ((.pair (.whole 4) ((.pair (.ptr 5 []) (.pl .nil))))),.row Y_api_Report,.box (.cons (.sl (.arr 32 (.int .u8))) .nil) ((.pair (.whole 6) (.pl .nil))),.row (.arr 32 (.int .u8)),.box Y_escrow_Escrow ((.pair (.whole 8) ((.pair (.whole 9) ((.pair (.pl u256) ((.pair (.whole 10) (.pl .nil))))))))),.row (.arr 32 (.int .u8)),.row .bool,.row Y_api_Payment,.box Y_api_Transaction (.pl Y_api_Transaction),.box u256 (.pl u256),.box Y_api_Charge (.pl Y_api_Charge)]⟩)]) ⟨ok114,ok115,ok116,ok117,ok118,ok119,trivial⟩ (by intro x; kernel_rfl)
noncomputable def poster_isZeroC:Con:=⟨⟨[.pl u256],[]⟩,⟨[.pl .bool],[]⟩,poster_isZero K0⟩
theorem ok180:ConOk Tryz.prog 180 poster_isZeroC:=mkOk (n:=180) (k:=60) (hs:=[]) (A:=fun _ _=>none) trivial (by intro x; kernel_rfl)
noncomputable def poster_sumC:Con:=⟨⟨[.pl u256,.pl u256],[]⟩,⟨[.pl (.arr 5 (.int .u64))],[]⟩,poster_sum K0⟩
theorem ok210:ConOk Tryz.prog 210 poster_sumC:=mkOk (n:=210) (k:=60) (hs:=[(121,.con add64C)]) (A:=annL [([210],0,.tmpl ⟨(dd 2 (.ptr 0 [] :: .ptr 1 [] :: .ptr 2 [] :: .ptr 3 [] :: .pl (.int .u64) :: dd 1 (.pl (.int .i64) :: dd 19 []))),[.box u256 (.pl u256),.box u256 (.pl u256),.box (.arr 5 (.int .u64)) (.pl (.arr 5 (.int .u64))),.box (.arr 5 (.int .u64)) (.pl (.arr 5 (.int .u64)))]⟩)]) ⟨ok121,trivial⟩ (by intro x; kernel_rfl)
noncomputable def poster_ValidC:Con:=⟨⟨[.pl (.sl Y_api_Poster)],[]⟩,⟨[.pl .bool],[]⟩,poster_Valid K0⟩
theorem ok170:ConOk Tryz.prog 170 poster_ValidC:=mkOk (n:=170) (k:=60) (hs:=[(180,.con poster_isZeroC),(210,.con poster_sumC)]) (A:=annL [([1000000,170],7,.join ⟨(.pl (.sl Y_api_Poster) :: dd 3 (.ptr 0 [] :: .pl (.sl Y_api_Poster) :: .pl (.int .i64) :: .pl (.int .i64) :: dd 8 (.pl (.int .i64) :: .pl .bool :: .pl .bool :: dd 9 (.pl .bool :: dd 25 [])))),[.box Y_api_Poster (.pl Y_api_Poster)]⟩),([170],0,.tmpl ⟨(.pl (.sl Y_api_Poster) :: dd 4 (.pl (.sl Y_api_Poster) :: .pl (.int .i64) :: .pl (.int .i64) :: dd 46 [])),[]⟩)]) ⟨ok180,ok210,trivial⟩ (by intro x; kernel_rfl)
noncomputable def int256_ValidC:Con:=⟨⟨[.pl Y_api_Int256],[]⟩,⟨[.pl .bool],[]⟩,int256_Valid K0⟩
theorem ok171:ConOk Tryz.prog 171 int256_ValidC:=mkOk (n:=171) (k:=60) (hs:=[]) (A:=fun _ _=>none) trivial (by intro x; kernel_rfl)
noncomputable def pricer_ValidC:Con:=⟨⟨[.pl Y_api_Pricer],[]⟩,⟨[.pl .bool],[]⟩,pricer_Valid K0⟩
theorem ok120:ConOk Tryz.prog 120 pricer_ValidC:=mkOk (n:=120) (k:=60) (hs:=[(170,.con poster_ValidC),(171,.con int256_ValidC)]) (A:=annL [([120],0,.tmpl ⟨(dd 1 (.ptr 0 [] :: dd 4 (.pl (.sl Y_api_Poster) :: .pl (.int .i64) :: .pl (.int .i64) :: dd 17 []))),[.box Y_api_Pricer (.pl Y_api_Pricer)]⟩)]) ⟨ok170,ok171,trivial⟩ (by intro x; kernel_rfl)
noncomputable def slices_Clone___api_Poster_api_Poster_C:Con:=⟨⟨[.pl (.sl Y_api_Poster)],[]⟩,⟨[.whole 0],[.row Y_api_Poster]⟩,slices_Clone___api_Poster_api_Poster_ K0⟩
theorem ok28:ConOk Tryz.prog 28 slices_Clone___api_Poster_api_Poster_C:=mkOk (n:=28) (k:=60) (hs:=[]) (A:=fun _ _=>none) trivial (by intro x; kernel_rfl)
noncomputable def slices_Clone___api_Poster_api_Poster_cC:Con:=⟨⟨[.pl (.sl Y_api_Poster)],[]⟩,⟨[.whole 0],[.row Y_api_Poster]⟩,slices_Clone___api_Poster_api_Poster_c K0⟩
theorem okc28:ConOk Tryz.prog 28 slices_Clone___api_Poster_api_Poster_cC:=mkOk (n:=28) (k:=60) (hs:=[]) (A:=fun _ _=>none) trivial (by intro x; exact Eq.trans (b:=slices_Clone___api_Poster_api_Poster_ K0 x) (by kernel_rfl) (slices_Clone___api_Poster_api_Poster_c_eq K0 x))
noncomputable def pricer_clonedC:Con:=⟨⟨[.pl Y_api_Pricer],[]⟩,⟨[.pl Y_api_Pricer],[]⟩,pricer_cloned K0⟩
theorem ok122:ConOk Tryz.prog 122 pricer_clonedC:=mkOk (n:=122) (k:=60) (hs:=[(28,.con slices_Clone___api_Poster_api_Poster_C)]) (A:=fun _ _=>none) ⟨ok28,trivial⟩ (by intro x; kernel_rfl)
noncomputable def pricer_AddUnitsC:Con:=⟨⟨[.pl Y_api_Pricer,.pl (.int .u64)],[]⟩,⟨[.pl Y_api_Pricer,.pl (.int .i64)],[]⟩,pricer_AddUnits K0⟩
theorem ok72:ConOk Tryz.prog 72 pricer_AddUnitsC:=mkOk (n:=72) (k:=60) (hs:=[(120,.con pricer_ValidC),(121,.con add64C),(122,.con pricer_clonedC)]) (A:=fun _ _=>none) ⟨ok120,ok121,ok122,trivial⟩ (by intro x; kernel_rfl)
noncomputable def block_UseGasC:Con:=⟨⟨[.pl Y_api_Block,.pl (.int .u64),.pl Y_api_Params],[]⟩,⟨[.pl Y_api_Block,.pl (.int .i64)],[]⟩,block_UseGas K0⟩
theorem ok73:ConOk Tryz.prog 73 block_UseGasC:=mkOk (n:=73) (k:=60) (hs:=[(116,.con block_GasRemainingC)]) (A:=fun _ _=>none) ⟨ok116,trivial⟩ (by intro x; kernel_rfl)
noncomputable def ledger_isVaultC:Con:=⟨⟨[.pl (.int .i64)],[]⟩,⟨[.pl .bool],[]⟩,ledger_isVault K0⟩
theorem ok123:ConOk Tryz.prog 123 ledger_isVaultC:=mkOk (n:=123) (k:=60) (hs:=[]) (A:=fun _ _=>none) trivial (by intro x; kernel_rfl)
noncomputable def ledger_isEmptyC:Con:=⟨⟨[.pl Y_api_Account],[]⟩,⟨[.pl .bool],[]⟩,ledger_isEmpty K0⟩
theorem ok174:ConOk Tryz.prog 174 ledger_isEmptyC:=mkOk (n:=174) (k:=60) (hs:=[]) (A:=fun _ _=>none) trivial (by intro x; kernel_rfl)
theorem ok175:ConOk Tryz.prog 175 (delC Y_api_Account):=del_ok (ρ:=⟨rnm [(45,175)],rnm [(22,46),(23,116),(3,3),(4,4)],fun x=>x⟩) (z:=mkZ Y_api_Account) ⟨by decide,follows,⟨Tryz.f175.name,by kernel_rfl,by kernel_rfl⟩,by kernel_rfl,fun _=>by kernel_rfl,by kernel_rfl,fun _=>by kernel_rfl,⟨_,rfl,by kernel_rfl⟩,fun _=>by kernel_rfl,by kernel_rfl,by decide⟩ noOddP
theorem ok176:ConOk Tryz.prog 176 (insC Y_api_Account):=ins_ok (t:=Y_api_Account) (ρ:=⟨rnm [(22,176),(29,213),(30,214)],rnm [(24,46),(9,116),(3,3),(4,4)],fun x=>x⟩) ⟨by decide,follows,⟨Tryz.f176.name,by kernel_rfl,by kernel_rfl⟩,by kernel_rfl,fun _=>by kernel_rfl,fun _=>by kernel_rfl,by kernel_rfl,by kernel_rfl,Tryz.f213,by kernel_rfl,by kernel_rfl,by kernel_rfl,by kernel_rfl,by kernel_rfl⟩ (ti_ok (by kernel_rfl)) (ti_ok (by kernel_rfl)) rfl (by decide) noOddP
noncomputable def ledger_Ledger_setC:Con:=⟨⟨[.ptr 0 [],.pl Y_api_Account],H_ledger_Ledger⟩,⟨[],H_ledger_Ledger⟩,ledger_Ledger_set K0⟩
theorem ok127:ConOk Tryz.prog 127 ledger_Ledger_setC:=mkOk (n:=127) (k:=160) (hs:=[(173,.con ledger_Ledger_findC),(174,.con ledger_isEmptyC),(175,.con (delC Y_api_Account)),(176,.con (insC Y_api_Account))]) (A:=annL [([1000000,127],4,.join ⟨(.ptr 0 [] :: dd 2 (.ptr 2 [] :: .pl (.int .i64) :: .pl .bool :: dd 7 (.pl .bool :: dd 40 (.ptr 0 [] :: [])))),[.box Y_ledger_Ledger ((.pair (.whole 1) (.pl (.cons (.arr 4 u256) .nil)))),.row Y_api_Account,.box Y_api_Account (.pl Y_api_Account)]⟩)]) ⟨ok173,ok174,ok175,ok176,trivial⟩ (by intro x; kernel_rfl)
noncomputable def ledger_Ledger_debitC:Con:=⟨⟨[.ptr 0 [],.pl (.int .u64),.pl u256],H_ledger_Ledger⟩,⟨[.pl (.int .i64)],H_ledger_Ledger⟩,ledger_Ledger_debit K0⟩
theorem ok124:ConOk Tryz.prog 124 ledger_Ledger_debitC:=mkOk (n:=124) (k:=140) (hs:=[(126,.con ledger_Ledger_getC),(127,.con ledger_Ledger_setC),(136,.con uint256_SubC)]) (A:=fun _ _=>none) ⟨ok126,ok127,ok136,trivial⟩ (by intro x; kernel_rfl)
noncomputable def uint256_maxValueC:Con:=⟨⟨[],[]⟩,⟨[.pl u256],[]⟩,uint256_maxValue K0⟩
theorem ok172:ConOk Tryz.prog 172 uint256_maxValueC:=mkOk (n:=172) (k:=60) (hs:=[]) (A:=fun _ _=>none) trivial (by intro x; kernel_rfl)
noncomputable def uint256_SaturatingAddC:Con:=⟨⟨[.pl u256,.pl u256],[]⟩,⟨[.pl u256],[]⟩,uint256_SaturatingAdd K0⟩
theorem ok125:ConOk Tryz.prog 125 uint256_SaturatingAddC:=mkOk (n:=125) (k:=60) (hs:=[(87,.con uint256_AddC),(172,.con uint256_maxValueC)]) (A:=fun _ _=>none) ⟨ok87,ok172,trivial⟩ (by intro x; kernel_rfl)
noncomputable def ledger_Ledger_PayVaultC:Con:=⟨⟨[.ptr 0 [],.pl (.int .u64),.pl (.int .i64),.pl u256],H_ledger_Ledger⟩,⟨[.pl (.int .i64)],H_ledger_Ledger⟩,ledger_Ledger_PayVault K0⟩
theorem ok74:ConOk Tryz.prog 74 ledger_Ledger_PayVaultC:=mkOk (n:=74) (k:=140) (hs:=[(123,.con ledger_isVaultC),(124,.con ledger_Ledger_debitC),(125,.con uint256_SaturatingAddC)]) (A:=annL [([1000000,74],6,.join ⟨(.ptr 0 [] :: .pl (.int .u64) :: .pl (.int .i64) :: dd 4 (.ptr 2 [] :: dd 35 (.ptr 0 [] :: []))),[.box Y_ledger_Ledger ((.pair (.whole 1) (.pl (.cons (.arr 4 u256) .nil)))),.row Y_api_Account,.box u256 (.pl u256)]⟩)]) ⟨ok123,ok124,ok125,trivial⟩ (by intro x; kernel_rfl)
noncomputable def ledger_Ledger_IncrementNonceC:Con:=⟨⟨[.ptr 0 [],.pl (.int .u64)],H_ledger_Ledger⟩,⟨[.pl (.int .i64)],H_ledger_Ledger⟩,ledger_Ledger_IncrementNonce K0⟩
theorem ok75:ConOk Tryz.prog 75 ledger_Ledger_IncrementNonceC:=mkOk (n:=75) (k:=140) (hs:=[(126,.con ledger_Ledger_getC),(127,.con ledger_Ledger_setC)]) (A:=fun _ _=>none) ⟨ok126,ok127,trivial⟩ (by intro x; kernel_rfl)
noncomputable def backlog_AddC:Con:=⟨⟨[.pl (.int .u64),.pl (.int .u64)],[]⟩,⟨[.pl (.int .u64)],[]⟩,backlog_Add K0⟩
theorem ok76:ConOk Tryz.prog 76 backlog_AddC:=mkOk (n:=76) (k:=60) (hs:=[(121,.con add64C)]) (A:=fun _ _=>none) ⟨ok121,trivial⟩ (by intro x; kernel_rfl)
noncomputable def outbox_Outbox_LenC:Con:=⟨⟨[.ptr 0 []],H_outbox_Outbox⟩,⟨[.pl (.int .i64)],H_outbox_Outbox⟩,outbox_Outbox_Len K0⟩
theorem ok35:ConOk Tryz.prog 35 outbox_Outbox_LenC:=mkOk (n:=35) (k:=140) (hs:=[]) (A:=fun _ _=>none) trivial (by intro x; kernel_rfl)
noncomputable def slices_Concat___byte_byte_C:Con:=⟨⟨[.pl (.sl (.sl (.int .u8)))],[]⟩,⟨[.whole 0],[.row (.int .u8)]⟩,slices_Concat___byte_byte_ K0⟩
theorem ok97:ConOk Tryz.prog 97 slices_Concat___byte_byte_C:=mkOkO [26] (n:=97) (k:=140) (hs:=[(156,.inl)]) (A:=annL [([97],0,.tmpl ⟨(.pl (.sl (.sl (.int .u8))) :: dd 2 (.pl (.int .i64) :: dd 5 (.pl (.sl (.sl (.int .u8))) :: .pl (.int .i64) :: .pl (.int .i64) :: dd 24 []))),[]⟩),([97],2,.tmpl ⟨(dd 6 (.whole 0 :: dd 18 (.pl (.sl (.sl (.int .u8))) :: .pl (.int .i64) :: .pl (.int .i64) :: dd 8 []))),[.row (.int .u8)]⟩)]) trivial (by intro x; kernel_rfl)
noncomputable def hash_roundConstantsC:Con:=⟨⟨[],[]⟩,⟨[.pl (.arr 64 (.int .u32))],[]⟩,hash_roundConstants K0⟩
theorem ok98:ConOk Tryz.prog 98 hash_roundConstantsC:=mkOk (n:=98) (k:=60) (hs:=[]) (A:=fun _ _=>none) trivial (by intro x; kernel_rfl)
noncomputable def math_bits_RotateLeft32C:Con:=⟨⟨[.pl (.int .u32),.pl (.int .i64)],[]⟩,⟨[.pl (.int .u32)],[]⟩,math_bits_RotateLeft32 K0⟩
theorem ok157:ConOk Tryz.prog 157 math_bits_RotateLeft32C:=mkOk (n:=157) (k:=60) (hs:=[]) (A:=fun _ _=>none) trivial (by intro x; kernel_rfl)
noncomputable def hash_compressC:Con:=⟨⟨[.pl (.arr 8 (.int .u32)),.pl (.arr 64 (.int .u32)),.pl (.arr 64 (.int .u32))],[]⟩,⟨[.pl (.arr 8 (.int .u32))],[]⟩,hash_compress K0⟩
theorem ok99:ConOk Tryz.prog 99 hash_compressC:=mkOk (n:=99) (k:=60) (hs:=[(157,.con math_bits_RotateLeft32C)]) (A:=annL [([99],0,.tmpl ⟨(dd 3 (.ptr 0 [] :: .ptr 1 [] :: .ptr 2 [] :: .ptr 3 [] :: .ptr 4 [] :: dd 10 (.pl (.int .i64) :: dd 97 []))),[.box (.arr 8 (.int .u32)) (.pl (.arr 8 (.int .u32))),.box (.arr 64 (.int .u32)) (.pl (.arr 64 (.int .u32))),.box (.arr 64 (.int .u32)) (.pl (.arr 64 (.int .u32))),.box (.arr 8 (.int .u32)) (.pl (.arr 8 (.int .u32))),.box (.arr 8 (.int .u32)) (.pl (.arr 8 (.int .u32)))]⟩),([99],2,.tmpl ⟨(dd 3 (.ptr 0 [] :: dd 2 (.ptr 1 [] :: .ptr 2 [] :: dd 95 (.pl (.int .i64) :: dd 12 [])))),[.box (.arr 8 (.int .u32)) (.pl (.arr 8 (.int .u32))),.box (.arr 8 (.int .u32)) (.pl (.arr 8 (.int .u32))),.box (.arr 8 (.int .u32)) (.pl (.arr 8 (.int .u32)))]⟩)]) ⟨ok157,trivial⟩ (by intro x; kernel_rfl)
noncomputable def hash_scheduleC:Con:=⟨⟨[.pl (.sl (.int .u8))],[]⟩,⟨[.pl (.arr 64 (.int .u32))],[]⟩,hash_schedule K0⟩
theorem ok100:ConOk Tryz.prog 100 hash_scheduleC:=mkOk (n:=100) (k:=60) (hs:=[(157,.con math_bits_RotateLeft32C)]) (A:=annL [([100],0,.tmpl ⟨(.pl (.sl (.int .u8)) :: dd 1 (.ptr 0 [] :: .ptr 1 [] :: dd 6 (.pl (.int .i64) :: dd 82 []))),[.box (.arr 64 (.int .u32)) (.pl (.arr 64 (.int .u32))),.box (.arr 64 (.int .u32)) (.pl (.arr 64 (.int .u32)))]⟩),([100],2,.tmpl ⟨(dd 2 (.ptr 0 [] :: .ptr 1 [] :: dd 1 (.pl (.int .i64) :: dd 87 []))),[.box (.arr 64 (.int .u32)) (.pl (.arr 64 (.int .u32))),.box (.arr 64 (.int .u32)) (.pl (.arr 64 (.int .u32)))]⟩)]) ⟨ok157,trivial⟩ (by intro x; kernel_rfl)
noncomputable def hash_SumC:Con:=⟨⟨[.pl (.sl (.int .u8))],[]⟩,⟨[.pl (.arr 32 (.int .u8))],[]⟩,hash_Sum K0⟩
theorem ok61:ConOk Tryz.prog 61 hash_SumC:=mkOk (n:=61) (k:=60) (hs:=[(97,.con slices_Concat___byte_byte_C),(98,.con hash_roundConstantsC),(99,.con hash_compressC),(100,.con hash_scheduleC)]) (A:=annL [([61],0,.tmpl ⟨(dd 2 (.ptr 0 [] :: .pl (.int .u64) :: .whole 1 :: dd 67 [])),[.box (.arr 32 (.int .u8)) (.pl (.arr 32 (.int .u8))),.row (.int .u8)]⟩),([61],2,.tmpl ⟨(dd 2 (.ptr 0 [] :: .pl (.int .u64) :: .whole 1 :: .pl (.int .i64) :: dd 66 [])),[.box (.arr 32 (.int .u8)) (.pl (.arr 32 (.int .u8))),.row (.int .u8)]⟩),([61],4,.tmpl ⟨(dd 2 (.ptr 0 [] :: dd 1 (.whole 1 :: dd 1 (.ptr 2 [] :: .ptr 3 [] :: .pl (.int .i64) :: dd 63 [])))),[.box (.arr 32 (.int .u8)) (.pl (.arr 32 (.int .u8))),.row (.int .u8),.box (.arr 8 (.int .u32)) (.pl (.arr 8 (.int .u32))),.box (.arr 64 (.int .u32)) (.pl (.arr 64 (.int .u32)))]⟩),([61],6,.tmpl ⟨(dd 2 (.ptr 0 [] :: dd 3 (.ptr 1 [] :: dd 2 (.ptr 2 [] :: dd 45 (.pl (.int .i64) :: dd 16 []))))),[.box (.arr 32 (.int .u8)) (.pl (.arr 32 (.int .u8))),.box (.arr 8 (.int .u32)) (.pl (.arr 8 (.int .u32))),.box (.arr 32 (.int .u8)) (.pl (.arr 32 (.int .u8)))]⟩)]) ⟨ok97,ok98,ok99,ok100,trivial⟩ (by intro x; kernel_rfl)
noncomputable def hash_LeafC:Con:=⟨⟨[.pl (.sl (.int .u8))],[]⟩,⟨[.pl (.arr 32 (.int .u8))],[]⟩,hash_Leaf K0⟩
theorem ok226:ConOk Tryz.prog 226 hash_LeafC:=mkOk (n:=226) (k:=60) (hs:=[(61,.con hash_SumC),(97,.con slices_Concat___byte_byte_C)]) (A:=fun _ _=>none) ⟨ok61,ok97,trivial⟩ (by intro x; kernel_rfl)
noncomputable def uint256_BitLenC:Con:=⟨⟨[.pl u256],[]⟩,⟨[.pl (.int .i64)],[]⟩,uint256_BitLen K0⟩
theorem ok178:ConOk Tryz.prog 178 uint256_BitLenC:=mkOk (n:=178) (k:=60) (hs:=[(203,.con math_bits_Len64C)]) (A:=annL [([178],0,.tmpl ⟨(dd 1 (.ptr 0 [] :: dd 1 (.pl (.int .i64) :: dd 15 []))),[.box u256 (.pl u256)]⟩)]) ⟨ok203,trivial⟩ (by intro x; kernel_rfl)
noncomputable def wire_encodeC:Con:=⟨⟨[.pl u256],[]⟩,⟨[.pl (.sl (.int .u8))],[]⟩,wire_encode K0⟩
theorem ok200:ConOk Tryz.prog 200 wire_encodeC:=mkOk (n:=200) (k:=60) (hs:=[(178,.con uint256_BitLenC)]) (A:=annL [([200],0,.tmpl ⟨(dd 1 (.ptr 0 [] :: dd 2 (.whole 1 :: .pl (.int .i64) :: dd 26 []))),[.box u256 (.pl u256),.row (.int .u8)]⟩)]) ⟨ok178,trivial⟩ (by intro x; kernel_rfl)
noncomputable def wire_AppendUint256C:Con:=⟨⟨[.pl (.sl (.int .u8)),.pl u256],[]⟩,⟨[.whole 0],[.row (.int .u8)]⟩,wire_AppendUint256 K0⟩
theorem ok155:ConOk Tryz.prog 155 wire_AppendUint256C:=mkOk (n:=155) (k:=60) (hs:=[(97,.con slices_Concat___byte_byte_C),(200,.con wire_encodeC)]) (A:=fun _ _=>none) ⟨ok97,ok200,trivial⟩ (by intro x; kernel_rfl)
noncomputable def wire_AppendUint64C:Con:=⟨⟨[.pl (.sl (.int .u8)),.pl (.int .u64)],[]⟩,⟨[.whole 0],[.row (.int .u8)]⟩,wire_AppendUint64 K0⟩
theorem ok153:ConOk Tryz.prog 153 wire_AppendUint64C:=mkOk (n:=153) (k:=60) (hs:=[(40,.con uint256_FromUint64C),(155,.con wire_AppendUint256C)]) (A:=fun _ _=>none) ⟨ok40,ok155,trivial⟩ (by intro x; kernel_rfl)
noncomputable def outbox_EncodeC:Con:=⟨⟨[.pl Y_api_Report],[]⟩,⟨[.pl (.sl (.int .u8))],[]⟩,outbox_Encode K0⟩
theorem ok227:ConOk Tryz.prog 227 outbox_EncodeC:=mkOk (n:=227) (k:=60) (hs:=[(153,.con wire_AppendUint64C),(155,.con wire_AppendUint256C)]) (A:=fun _ _=>none) ⟨ok153,ok155,trivial⟩ (by intro x; kernel_rfl)
noncomputable def outbox_LeafC:Con:=⟨⟨[.pl Y_api_Report],[]⟩,⟨[.pl (.arr 32 (.int .u8))],[]⟩,outbox_Leaf K0⟩
theorem ok191:ConOk Tryz.prog 191 outbox_LeafC:=mkOk (n:=191) (k:=60) (hs:=[(226,.con hash_LeafC),(227,.con outbox_EncodeC)]) (A:=fun _ _=>none) ⟨ok226,ok227,trivial⟩ (by intro x; kernel_rfl)
noncomputable def merkle_Tree_AppendC:Con:=⟨⟨[.ptr 0 [],.pl (.arr 32 (.int .u8))],H_merkle_Tree⟩,⟨[.pl (.int .i64)],H_merkle_Tree⟩,merkle_Tree_Append K0⟩
theorem ok223:ConOk Tryz.prog 223 merkle_Tree_AppendC:=mkOk (n:=223) (k:=140) (hs:=[]) (A:=fun _ _=>none) trivial (by intro x; kernel_rfl)
noncomputable def outbox_Outbox_pushC:Con:=⟨⟨[.ptr 0 [],.pl Y_api_Report],H_outbox_Outbox⟩,⟨[],H_outbox_Outbox⟩,outbox_Outbox_push K0⟩
theorem ok188:ConOk Tryz.prog 188 outbox_Outbox_pushC:=mkOk (n:=188) (k:=140) (hs:=[(191,.con outbox_LeafC),(223,.con merkle_Tree_AppendC)]) (A:=fun _ _=>none) ⟨ok191,ok223,trivial⟩ (by intro x; kernel_rfl)
noncomputable def outbox_Outbox_SendC:Con:=⟨⟨[.ptr 0 [],.pl (.int .u64),.pl u256],H_outbox_Outbox⟩,⟨[.pl Y_api_Report,.pl (.int .i64)],H_outbox_Outbox⟩,outbox_Outbox_Send K0⟩
theorem ok137:ConOk Tryz.prog 137 outbox_Outbox_SendC:=mkOk (n:=137) (k:=140) (hs:=[(188,.con outbox_Outbox_pushC)]) (A:=annL [([1000000,137],6,.join ⟨(.ptr 0 [] :: .pl (.int .u64) :: dd 3 (.ptr 4 [] :: .ptr 5 [] :: dd 28 (.ptr 0 [] :: .ptr 2 [] :: []))),[.box Y_outbox_Outbox ((.pair (.whole 1) ((.pair (.ptr 2 []) (.pl .nil))))),.row Y_api_Report,.box (.cons (.sl (.arr 32 (.int .u8))) .nil) ((.pair (.whole 3) (.pl .nil))),.row (.arr 32 (.int .u8)),.box u256 (.pl u256),.box Y_api_Report (.pl Y_api_Report)]⟩)]) ⟨ok188,trivial⟩ (by intro x; kernel_rfl)
noncomputable def merkle_splitPointC:Con:=⟨⟨[.pl (.int .i64)],[]⟩,⟨[.pl (.int .i64)],[]⟩,merkle_splitPoint K0⟩
theorem ok112:ConOk Tryz.prog 112 merkle_splitPointC:=mkOk (n:=112) (k:=60) (hs:=[]) (A:=annL [([112],0,.tmpl ⟨(.pl (.int .i64) :: dd 2 (.pl (.int .i64) :: dd 8 [])),[]⟩)]) trivial (by intro x; kernel_rfl)
noncomputable def hash_NodeC:Con:=⟨⟨[.pl (.arr 32 (.int .u8)),.pl (.arr 32 (.int .u8))],[]⟩,⟨[.pl (.arr 32 (.int .u8))],[]⟩,hash_Node K0⟩
theorem ok163:ConOk Tryz.prog 163 hash_NodeC:=mkOk (n:=163) (k:=60) (hs:=[(61,.con hash_SumC),(97,.con slices_Concat___byte_byte_C)]) (A:=fun _ _=>none) ⟨ok61,ok97,trivial⟩ (by intro x; kernel_rfl)
noncomputable def merkle_RootOfC:Con:=⟨⟨[.pl (.sl (.arr 32 (.int .u8)))],[]⟩,⟨[.pl (.arr 32 (.int .u8))],[]⟩,merkle_RootOf K0⟩
noncomputable def merkle_RootOfK (k0:Nat):Con:=⟨⟨[.pl (.sl (.arr 32 (.int .u8)))],[]⟩,⟨[.pl (.arr 32 (.int .u8))],[]⟩,merkle_RootOf_rec K0 k0⟩
theorem okr113:∀ k0,ConOk Tryz.prog 113 (merkle_RootOfK k0)
  | 0=>fun x y h=>by cases h
  | k0 + 1=>mkOk (n:=113) (k:=60) (hs:=[(61,.con hash_SumC),(112,.con merkle_splitPointC),(113,.con (merkle_RootOfK k0)),(163,.con hash_NodeC)]) (A:=fun _ _=>none) ⟨ok61,ok112,(okr113 k0),ok163,trivial⟩ (by intro x; kernel_rfl)
theorem ok113:ConOk Tryz.prog 113 merkle_RootOfC:=okr113 K0
noncomputable def merkle_Tree_RootC:Con:=⟨⟨[.bp (.cons (.sl (.arr 32 (.int .u8))) .nil),.pl (.int .i64)],[]⟩,⟨[.pl (.arr 32 (.int .u8)),.pl .bool],[]⟩,merkle_Tree_Root K0⟩
theorem ok189:ConOk Tryz.prog 189 merkle_Tree_RootC:=mkOk (n:=189) (k:=140) (hs:=[(113,.con merkle_RootOfC)]) (A:=annL [([1000000,189],4,.join ⟨(.bp (.cons (.sl (.arr 32 (.int .u8))) .nil) :: .pl (.int .i64) :: dd 2 (.ptr 0 [] :: dd 24 [])),[.box (.arr 32 (.int .u8)) (.pl (.arr 32 (.int .u8)))]⟩)]) ⟨ok113,trivial⟩ (by intro x; kernel_rfl)
noncomputable def outbox_Outbox_RootC:Con:=⟨⟨[.ptr 0 [],.pl (.int .i64)],H_outbox_Outbox⟩,⟨[.pl (.arr 32 (.int .u8)),.pl .bool],H_outbox_Outbox⟩,outbox_Outbox_Root K0⟩
theorem ok138:ConOk Tryz.prog 138 outbox_Outbox_RootC:=mkOk (n:=138) (k:=140) (hs:=[(189,.con merkle_Tree_RootC)]) (A:=fun _ _=>none) ⟨ok189,trivial⟩ (by intro x; kernel_rfl)
noncomputable def escrow_Escrow_AppendRootC:Con:=⟨⟨[.ptr 0 [],.pl (.arr 32 (.int .u8))],H_escrow_Escrow⟩,⟨[.pl (.int .i64)],H_escrow_Escrow⟩,escrow_Escrow_AppendRoot K0⟩
theorem ok139:ConOk Tryz.prog 139 escrow_Escrow_AppendRootC:=mkOk (n:=139) (k:=140) (hs:=[]) (A:=fun _ _=>none) trivial (by intro x; kernel_rfl)
noncomputable def executor_Machine_sendC:Con:=⟨⟨[.ptr 0 [],.pl (.int .u64),.pl u256],H_executor_Machine⟩,⟨[.pl Y_api_Report],H_executor_Machine⟩,executor_Machine_send K0⟩
theorem ok82:ConOk Tryz.prog 82 executor_Machine_sendC:=mkOk (n:=82) (k:=140) (hs:=[(35,.con outbox_Outbox_LenC),(137,.con outbox_Outbox_SendC),(138,.con outbox_Outbox_RootC),(139,.con escrow_Escrow_AppendRootC)]) (A:=fun _ _=>none) ⟨ok35,ok137,ok138,ok139,trivial⟩ (by intro x; kernel_rfl)
noncomputable def ledger_Ledger_creditC:Con:=⟨⟨[.ptr 0 [],.pl (.int .u64),.pl u256],H_ledger_Ledger⟩,⟨[],H_ledger_Ledger⟩,ledger_Ledger_credit K0⟩
theorem ok144:ConOk Tryz.prog 144 ledger_Ledger_creditC:=mkOk (n:=144) (k:=140) (hs:=[(125,.con uint256_SaturatingAddC),(126,.con ledger_Ledger_getC),(127,.con ledger_Ledger_setC)]) (A:=fun _ _=>none) ⟨ok125,ok126,ok127,trivial⟩ (by intro x; kernel_rfl)
noncomputable def ledger_Ledger_TransferC:Con:=⟨⟨[.ptr 0 [],.pl (.int .u64),.pl (.int .u64),.pl u256],H_ledger_Ledger⟩,⟨[.pl (.int .i64)],H_ledger_Ledger⟩,ledger_Ledger_Transfer K0⟩
theorem ok128:ConOk Tryz.prog 128 ledger_Ledger_TransferC:=mkOk (n:=128) (k:=140) (hs:=[(124,.con ledger_Ledger_debitC),(144,.con ledger_Ledger_creditC)]) (A:=annL [([1000000,128],6,.join ⟨(.ptr 0 [] :: .pl (.int .u64) :: .pl (.int .u64) :: dd 4 (.ptr 2 [] :: dd 23 (.ptr 0 [] :: []))),[.box Y_ledger_Ledger ((.pair (.whole 1) (.pl (.cons (.arr 4 u256) .nil)))),.row Y_api_Account,.box u256 (.pl u256)]⟩)]) ⟨ok124,ok144,trivial⟩ (by intro x; kernel_rfl)
noncomputable def ledger_Ledger_WithdrawC:Con:=⟨⟨[.ptr 0 [],.pl (.int .u64),.pl u256],H_ledger_Ledger⟩,⟨[.pl (.int .i64)],H_ledger_Ledger⟩,ledger_Ledger_Withdraw K0⟩
theorem ok129:ConOk Tryz.prog 129 ledger_Ledger_WithdrawC:=mkOk (n:=129) (k:=140) (hs:=[(124,.con ledger_Ledger_debitC)]) (A:=fun _ _=>none) ⟨ok124,trivial⟩ (by intro x; kernel_rfl)
noncomputable def executor_Machine_transferValueC:Con:=⟨⟨[.ptr 0 [],.pl Y_api_Transaction],H_executor_Machine⟩,⟨[.pl (.sl Y_api_Report)],H_executor_Machine⟩,executor_Machine_transferValue K0⟩
theorem ok77:ConOk Tryz.prog 77 executor_Machine_transferValueC:=mkOk (n:=77) (k:=140) (hs:=[(82,.con executor_Machine_sendC),(128,.con ledger_Ledger_TransferC),(129,.con ledger_Ledger_WithdrawC)]) (A:=fun _ _=>none) ⟨ok82,ok128,ok129,trivial⟩ (by intro x; kernel_rfl)
noncomputable def executor_Machine_transactionC:Con:=⟨⟨[.ptr 0 [],.pl Y_api_Step],H_executor_Machine⟩,⟨[.pl Y_api_Receipt,.pl (.int .i64)],H_executor_Machine⟩,executor_Machine_transaction K0⟩
theorem ok53:ConOk Tryz.prog 53 executor_Machine_transactionC:=mkOk (n:=53) (k:=140) (hs:=[(71,.con executor_Machine_checkTransactionC),(72,.con pricer_AddUnitsC),(73,.con block_UseGasC),(74,.con ledger_Ledger_PayVaultC),(75,.con ledger_Ledger_IncrementNonceC),(76,.con backlog_AddC),(77,.con executor_Machine_transferValueC)]) (A:=annL [([1000000,53],20,.join ⟨(.ptr 0 [] :: dd 3 (.ptr 11 [] :: dd 1 (.ptr 13 [] :: dd 5 (.ptr 14 [] :: dd 118 (.pl .bool :: dd 8 (.ptr 0 [] :: .ptr 1 [] :: .ptr 3 [] :: .ptr 5 [] :: .ptr 7 [] :: [])))))),[.box Y_executor_Machine ((.pair (.pl (.int .u64)) ((.pair (.pl Y_api_Params) ((.pair (.pl Y_api_Block) ((.pair (.pl (.int .u64)) ((.pair (.pl Y_api_Pricer) ((.pair (.ptr 1 []) ((.pair (.ptr 3 []) ((.pair (.ptr 7 []) (.pl .nil))))))))))))))))),.box Y_ledger_Ledger ((.pair (.whole 2) (.pl (.cons (.arr 4 u256) .nil)))),.row Y_api_Account,.box Y_outbox_Outbox ((.pair (.whole 4) ((.pair (.ptr 5 []) (.pl .nil))))),.row Y_api_Report,.box (.cons (.sl (.arr 32 (.int .u8))) .nil) ((.pair (.whole 6) (.pl .nil))),.row (.arr 32 (.int .u8)),.box Y_escrow_Escrow ((.pair (.whole 8) ((.pair (.whole 9) ((.pair (.pl u256) ((.pair (.whole 10) (.pl .nil))))))))),.row (.arr 32 (.int .u8)),.row .bool,.row Y_api_Payment,.box Y_api_Receipt ((.pair (.pl (.int .i64)) ((.pair (.pl (.int .i64)) ((.pair (.pl Y_api_Charge) ((.pair (.pl u256) ((.pair (.pl u256) ((.pair (.pl (.int .u64)) ((.pair (.pl u256) ((.pair (.pl u256) ((.pair (.whole 12) (.pl .nil))))))))))))))))))),.row Y_api_Report,.box Y_api_Transaction (.pl Y_api_Transaction),.box Y_api_Receipt ((.pair (.pl (.int .i64)) ((.pair (.pl (.int .i64)) ((.pair (.pl Y_api_Charge) ((.pair (.pl u256) ((.pair (.pl u256) ((.pair (.pl (.int .u64)) ((.pair (.pl u256) ((.pair (.pl u256) ((.pair (.whole 15) (.pl .nil))))))))))))))))))),.row Y_api_Report]⟩)]) ⟨ok71,ok72,ok73,ok74,ok75,ok76,ok77,trivial⟩ (by intro x; kernel_rfl)
noncomputable def poster_FindC:Con:=⟨⟨[.pl (.sl Y_api_Poster),.pl (.int .u64)],[]⟩,⟨[.pl (.int .i64)],[]⟩,poster_Find K0⟩
theorem ok177:ConOk Tryz.prog 177 poster_FindC:=mkOk (n:=177) (k:=90) (hs:=[(215,.inl),(216,.inl)]) (A:=annL [([215,1,2,177],0,.tmpl ⟨(.pl (.sl Y_api_Poster) :: (.clo 216 ((.pair (.ptr 0 []) (.pl .nil)))) :: dd 5 (.pl (.int .i64) :: .pl (.int .i64) :: dd 18 [])),[.box (.int .u64) (.pl (.int .u64))]⟩)]) trivial (by intro x; kernel_rfl)
noncomputable def pricer_checkReportC:Con:=⟨⟨[.pl Y_api_Pricer,.pl Y_api_Params,.pl Y_api_Report,.pl (.int .u64)],[]⟩,⟨[.pl (.int .i64)],[]⟩,pricer_checkReport K0⟩
theorem ok130:ConOk Tryz.prog 130 pricer_checkReportC:=mkOk (n:=130) (k:=60) (hs:=[(101,.con params_ValidC),(120,.con pricer_ValidC),(177,.con poster_FindC),(178,.con uint256_BitLenC)]) (A:=annL [([1000000,130],9,.join ⟨(dd 4 (.ptr 0 [] :: dd 1 (.ptr 1 [] :: dd 17 (.pl .bool :: dd 20 [])))),[.box Y_api_Pricer (.pl Y_api_Pricer),.box Y_api_Report (.pl Y_api_Report)]⟩)]) ⟨ok101,ok120,ok177,ok178,trivial⟩ (by intro x; kernel_rfl)
noncomputable def alloc_AllocateC:Con:=⟨⟨[.pl (.int .u64),.pl (.int .u64),.pl (.int .u64),.pl (.int .u64)],[]⟩,⟨[.pl (.int .u64),.pl (.int .i64)],[]⟩,alloc_Allocate K0⟩
theorem ok179:ConOk Tryz.prog 179 alloc_AllocateC:=mkOk (n:=179) (k:=60) (hs:=[(40,.con uint256_FromUint64C),(160,.con muldiv_MulDivFloorC)]) (A:=annL [([1000000,179],3,.join ⟨(.pl (.int .u64) :: .pl (.int .u64) :: .pl (.int .u64) :: .pl (.int .u64) :: dd 8 (.pl .bool :: dd 30 [])),[]⟩),([1000000,179],6,.join ⟨(.pl (.int .u64) :: .pl (.int .u64) :: .pl (.int .u64) :: .pl (.int .u64) :: dd 39 []),[]⟩)]) ⟨ok40,ok160,trivial⟩ (by intro x; kernel_rfl)
noncomputable def pricer_allocateC:Con:=⟨⟨[.pl Y_api_Pricer,.pl Y_api_Params,.pl Y_api_Report,.pl (.int .u64)],[]⟩,⟨[.pl Y_pricer_Outcome,.pl (.int .i64)],[]⟩,pricer_allocate K0⟩
theorem ok131:ConOk Tryz.prog 131 pricer_allocateC:=mkOk (n:=131) (k:=60) (hs:=[(40,.con uint256_FromUint64C),(165,.con uint256_MulC),(179,.con alloc_AllocateC)]) (A:=fun _ _=>none) ⟨ok40,ok165,ok179,trivial⟩ (by intro x; kernel_rfl)
noncomputable def poster_AccrueC:Con:=⟨⟨[.pl (.sl Y_api_Poster),.pl (.int .u64),.pl u256,.pl u256,.pl (.int .u64)],[]⟩,⟨[.pl (.sl Y_api_Poster),.pl (.int .i64)],[]⟩,poster_Accrue K0⟩
theorem ok132:ConOk Tryz.prog 132 poster_AccrueC:=mkOk (n:=132) (k:=60) (hs:=[(28,.con slices_Clone___api_Poster_api_Poster_C),(87,.con uint256_AddC),(170,.con poster_ValidC),(177,.con poster_FindC),(180,.con poster_isZeroC)]) (A:=annL [([1000000,132],14,.join ⟨(.pl (.sl Y_api_Poster) :: dd 3 (.pl (.int .u64) :: dd 7 (.pl (.int .i64) :: .ptr 0 [] :: dd 2 (.ptr 1 [] :: dd 1 (.ptr 2 [] :: dd 1 (.ptr 3 [] :: dd 84 [])))))),[.box Y_api_Poster (.pl Y_api_Poster),.box u256 (.pl u256),.box u256 (.pl u256),.box u256 (.pl u256)]⟩),([1000000,132],16,.join ⟨(.pl (.sl Y_api_Poster) :: dd 11 (.pl (.int .i64) :: .ptr 0 [] :: dd 2 (.ptr 1 [] :: dd 1 (.ptr 2 [] :: dd 1 (.ptr 3 [] :: dd 84 []))))),[.box Y_api_Poster (.pl Y_api_Poster),.box u256 (.pl u256),.box u256 (.pl u256),.box u256 (.pl u256)]⟩),([1000000,132],4,.join ⟨(.pl (.sl Y_api_Poster) :: dd 3 (.pl (.int .u64) :: dd 2 (.ptr 0 [] :: .ptr 1 [] :: dd 3 (.pl (.int .i64) :: dd 13 (.pl .bool :: dd 78 []))))),[.box u256 (.pl u256),.box u256 (.pl u256)]⟩),([1000000,132],7,.join ⟨(.pl (.sl Y_api_Poster) :: dd 3 (.pl (.int .u64) :: dd 2 (.ptr 0 [] :: .ptr 1 [] :: dd 3 (.pl (.int .i64) :: dd 92 [])))),[.box u256 (.pl u256),.box u256 (.pl u256)]⟩)]) ⟨ok28,ok87,ok170,ok177,ok180,trivial⟩ (by intro x; kernel_rfl)
noncomputable def debtqueue_items_LenC:Con:=⟨⟨[.pl (.sl Y_debtqueue_item)],[]⟩,⟨[.pl (.int .i64)],[]⟩,debtqueue_items_Len K0⟩
theorem ok269:ConOk Tryz.prog 269 debtqueue_items_LenC:=mkOk (n:=269) (k:=60) (hs:=[]) (A:=fun _ _=>none) trivial (by intro x; kernel_rfl)
noncomputable def debtqueue_items_LessC:Con:=⟨⟨[.pl (.sl Y_debtqueue_item),.pl (.int .i64),.pl (.int .i64)],[]⟩,⟨[.pl .bool],[]⟩,debtqueue_items_Less K0⟩
theorem ok270:ConOk Tryz.prog 270 debtqueue_items_LessC:=mkOk (n:=270) (k:=60) (hs:=[]) (A:=fun _ _=>none) trivial (by intro x; kernel_rfl)
noncomputable def container_heap_PushC:Con:=⟨⟨[.iface 322 (.ptr 0 [.fld 0]),.iface 324 (.pl Y_debtqueue_item)],[.box Y_debtqueue_Queue (.pair (.whole 1) (.pl .nil)),.row Y_debtqueue_item]⟩,⟨[],[.box Y_debtqueue_Queue (.pair (.whole 1) (.pl .nil)),.row Y_debtqueue_item]⟩,container_heap_Push K0⟩
theorem ok217:ConOk Tryz.prog 217 container_heap_PushC:=mkOk (n:=217) (k:=140) (hs:=[(235,.inl),(269,.con debtqueue_items_LenC),(270,.con debtqueue_items_LessC),(271,.inl),(273,.inl)]) (A:=annL [([235,1,4,217],0,.tmpl ⟨((.iface 322 (.ptr 0 [.fld 0])) :: .pl (.int .i64) :: dd 33 (.ptr 0 [] :: [])),[.box Y_debtqueue_Queue ((.pair (.whole 1) (.pl .nil))),.row Y_debtqueue_item]⟩)]) ⟨ok269,ok270,trivial⟩ (by intro x; kernel_rfl)
noncomputable def debtqueue_NewC:Con:=⟨⟨[.pl (.sl Y_api_Poster)],[]⟩,⟨[.ptr 0 []],[.box Y_debtqueue_Queue (.pair (.whole 1) (.pl .nil)),.row Y_debtqueue_item]⟩,debtqueue_New K0⟩
theorem ok181:ConOk Tryz.prog 181 debtqueue_NewC:=mkOk (n:=181) (k:=140) (hs:=[(217,.con container_heap_PushC)]) (A:=annL [([181],0,.tmpl ⟨(dd 3 (.ptr 0 [] :: dd 4 (.pl (.sl Y_api_Poster) :: .pl (.int .i64) :: .pl (.int .i64) :: dd 19 []))),[.box Y_debtqueue_Queue ((.pair (.whole 1) (.pl .nil))),.row Y_debtqueue_item]⟩)]) ⟨ok217,trivial⟩ (by intro x; kernel_rfl)
noncomputable def debtqueue_Queue_LenC:Con:=⟨⟨[.ptr 0 []],[.box Y_debtqueue_Queue (.pair (.whole 1) (.pl .nil)),.row Y_debtqueue_item]⟩,⟨[.pl (.int .i64)],[.box Y_debtqueue_Queue (.pair (.whole 1) (.pl .nil)),.row Y_debtqueue_item]⟩,debtqueue_Queue_Len K0⟩
theorem ok236:ConOk Tryz.prog 236 debtqueue_Queue_LenC:=mkOk (n:=236) (k:=60) (hs:=[]) (A:=fun _ _=>none) trivial (by intro x; kernel_rfl)
noncomputable def debtqueue_Queue_PeekC:Con:=⟨⟨[.ptr 0 []],[.box Y_debtqueue_Queue (.pair (.whole 1) (.pl .nil)),.row Y_debtqueue_item]⟩,⟨[.pl Y_api_Poster,.pl .bool],[.box Y_debtqueue_Queue (.pair (.whole 1) (.pl .nil)),.row Y_debtqueue_item]⟩,debtqueue_Queue_Peek K0⟩
theorem ok218:ConOk Tryz.prog 218 debtqueue_Queue_PeekC:=mkOk (n:=218) (k:=60) (hs:=[(236,.con debtqueue_Queue_LenC)]) (A:=fun _ _=>none) ⟨ok236,trivial⟩ (by intro x; kernel_rfl)
noncomputable def debtqueue_Queue_PopC:Con:=⟨⟨[.ptr 0 []],[.box Y_debtqueue_Queue (.pair (.whole 1) (.pl .nil)),.row Y_debtqueue_item]⟩,⟨[.pl Y_api_Poster,.pl .bool],[.box Y_debtqueue_Queue (.pair (.whole 1) (.pl .nil)),.row Y_debtqueue_item]⟩,debtqueue_Queue_Pop K0⟩
theorem ok182:ConOk Tryz.prog 182 debtqueue_Queue_PopC:=mkOk (n:=182) (k:=140) (hs:=[(218,.con debtqueue_Queue_PeekC),(219,.inl),(237,.inl),(269,.con debtqueue_items_LenC),(270,.con debtqueue_items_LessC),(271,.inl),(272,.inl)]) (A:=annL [([237,3,2,219,3,4,182],0,.tmpl ⟨((.iface 322 (.ptr 0 [.fld 0])) :: .pl (.int .i64) :: .pl (.int .i64) :: dd 4 (.pl (.int .i64) :: dd 40 ((.iface 322 (.ptr 0 [.fld 0])) :: dd 16 (.ptr 2 [] :: dd 1 (.ptr 3 [] :: .pl .bool :: dd 13 (.ptr 0 [] :: [])))))),[.box Y_debtqueue_Queue ((.pair (.whole 1) (.pl .nil))),.row Y_debtqueue_item,.box Y_api_Poster (.pl Y_api_Poster),.box Y_api_Poster (.pl Y_api_Poster)]⟩)]) ⟨ok218,ok269,ok270,trivial⟩ (by intro x; kernel_rfl)
noncomputable def payout_PlanC:Con:=⟨⟨[.pl (.sl Y_api_Poster),.pl u256],[]⟩,⟨[.pl (.sl Y_api_Payment),.pl (.int .i64)],[]⟩,payout_Plan K0⟩
theorem ok133:ConOk Tryz.prog 133 payout_PlanC:=mkOk (n:=133) (k:=60) (hs:=[(164,.con uint256_MinC),(168,.con uint256_SaturatingSubC),(170,.con poster_ValidC),(181,.con debtqueue_NewC),(182,.con debtqueue_Queue_PopC)]) (A:=annL [([1000000,133],9,.join ⟨(dd 3 (.ptr 0 [] :: dd 2 (.whole 1 :: .ptr 2 [] :: .ptr 4 [] :: dd 14 (.pl u256 :: .pl u256 :: .pl .bool :: dd 23 [])))),[.box u256 (.pl u256),.row Y_api_Payment,.box Y_debtqueue_Queue ((.pair (.whole 3) (.pl .nil))),.row Y_debtqueue_item,.box Y_api_Poster (.pl Y_api_Poster)]⟩),([133],0,.tmpl ⟨(dd 3 (.ptr 0 [] :: dd 2 (.whole 1 :: .ptr 2 [] :: .ptr 4 [] :: .pl .bool :: dd 39 []))),[.box u256 (.pl u256),.row Y_api_Payment,.box Y_debtqueue_Queue ((.pair (.whole 3) (.pl .nil))),.row Y_debtqueue_item,.box Y_api_Poster (.pl Y_api_Poster)]⟩)]) ⟨ok164,ok168,ok170,ok181,ok182,trivial⟩ (by intro x; kernel_rfl)
noncomputable def poster_SettleC:Con:=⟨⟨[.pl (.sl Y_api_Poster),.pl (.int .u64),.pl u256],[]⟩,⟨[.pl (.sl Y_api_Poster),.pl (.int .i64)],[]⟩,poster_Settle K0⟩
theorem ok183:ConOk Tryz.prog 183 poster_SettleC:=mkOk (n:=183) (k:=60) (hs:=[(28,.con slices_Clone___api_Poster_api_Poster_C),(87,.con uint256_AddC),(136,.con uint256_SubC),(170,.con poster_ValidC),(177,.con poster_FindC),(180,.con poster_isZeroC)]) (A:=annL [([1000000,183],17,.join ⟨(.pl (.sl Y_api_Poster) :: dd 7 (.pl (.int .i64) :: .ptr 0 [] :: dd 51 [])),[.box Y_api_Poster (.pl Y_api_Poster)]⟩)]) ⟨ok28,ok87,ok136,ok170,ok177,ok180,trivial⟩ (by intro x; kernel_rfl)
noncomputable def payout_ApplyC:Con:=⟨⟨[.pl (.sl Y_api_Poster),.pl (.sl Y_api_Payment)],[]⟩,⟨[.pl (.sl Y_api_Poster),.pl (.int .i64)],[]⟩,payout_Apply K0⟩
theorem ok134:ConOk Tryz.prog 134 payout_ApplyC:=mkOk (n:=134) (k:=60) (hs:=[(28,.con slices_Clone___api_Poster_api_Poster_C),(183,.con poster_SettleC)]) (A:=annL [([134],0,.tmpl ⟨(dd 6 (.pl (.sl Y_api_Poster) :: dd 5 (.pl (.sl Y_api_Payment) :: .pl (.int .i64) :: .pl (.int .i64) :: dd 17 []))),[]⟩)]) ⟨ok28,ok183,trivial⟩ (by intro x; kernel_rfl)
noncomputable def payout_SumC:Con:=⟨⟨[.pl (.sl Y_api_Payment)],[]⟩,⟨[.pl u256,.pl (.int .i64)],[]⟩,payout_Sum K0⟩
theorem ok80:ConOk Tryz.prog 80 payout_SumC:=mkOk (n:=80) (k:=60) (hs:=[(87,.con uint256_AddC)]) (A:=annL [([80],0,.tmpl ⟨(dd 2 (.ptr 0 [] :: dd 1 (.ptr 1 [] :: dd 4 (.pl (.sl Y_api_Payment) :: .pl (.int .i64) :: .pl (.int .i64) :: dd 16 [])))),[.box u256 (.pl u256),.box u256 (.pl u256)]⟩)]) ⟨ok87,trivial⟩ (by intro x; kernel_rfl)
noncomputable def poster_TotalDueC:Con:=⟨⟨[.pl (.sl Y_api_Poster)],[]⟩,⟨[.pl u256,.pl (.int .i64)],[]⟩,poster_TotalDue K0⟩
theorem ok184:ConOk Tryz.prog 184 poster_TotalDueC:=mkOk (n:=184) (k:=60) (hs:=[(87,.con uint256_AddC),(170,.con poster_ValidC)]) (A:=annL [([184],0,.tmpl ⟨(dd 2 (.ptr 0 [] :: dd 1 (.ptr 1 [] :: dd 8 (.pl (.sl Y_api_Poster) :: .pl (.int .i64) :: .pl (.int .i64) :: dd 16 [])))),[.box u256 (.pl u256),.box u256 (.pl u256)]⟩)]) ⟨ok87,ok170,trivial⟩ (by intro x; kernel_rfl)
noncomputable def int256_NewC:Con:=⟨⟨[.pl .bool,.pl u256],[]⟩,⟨[.pl Y_api_Int256],[]⟩,int256_New K0⟩
theorem ok238:ConOk Tryz.prog 238 int256_NewC:=mkOk (n:=238) (k:=60) (hs:=[]) (A:=fun _ _=>none) trivial (by intro x; kernel_rfl)
noncomputable def int256_DiffC:Con:=⟨⟨[.pl u256,.pl u256],[]⟩,⟨[.pl Y_api_Int256],[]⟩,int256_Diff K0⟩
theorem ok220:ConOk Tryz.prog 220 int256_DiffC:=mkOk (n:=220) (k:=60) (hs:=[(166,.con uint256_CmpC),(168,.con uint256_SaturatingSubC),(238,.con int256_NewC)]) (A:=fun _ _=>none) ⟨ok166,ok168,ok238,trivial⟩ (by intro x; kernel_rfl)
noncomputable def l1price_SurplusC:Con:=⟨⟨[.pl u256,.pl u256],[]⟩,⟨[.pl Y_api_Int256],[]⟩,l1price_Surplus K0⟩
theorem ok185:ConOk Tryz.prog 185 l1price_SurplusC:=mkOk (n:=185) (k:=60) (hs:=[(220,.con int256_DiffC)]) (A:=fun _ _=>none) ⟨ok220,trivial⟩ (by intro x; kernel_rfl)
noncomputable def int256_NegC:Con:=⟨⟨[.pl Y_api_Int256],[]⟩,⟨[.pl Y_api_Int256,.pl (.int .i64)],[]⟩,int256_Neg K0⟩
theorem ok239:ConOk Tryz.prog 239 int256_NegC:=mkOk (n:=239) (k:=60) (hs:=[(171,.con int256_ValidC),(238,.con int256_NewC)]) (A:=fun _ _=>none) ⟨ok171,ok238,trivial⟩ (by intro x; kernel_rfl)
noncomputable def int256_DivFloorC:Con:=⟨⟨[.pl Y_api_Int256,.pl u256],[]⟩,⟨[.pl Y_api_Int256,.pl (.int .i64)],[]⟩,int256_DivFloor K0⟩
theorem ok240:ConOk Tryz.prog 240 int256_DivFloorC:=mkOk (n:=240) (k:=60) (hs:=[(40,.con uint256_FromUint64C),(87,.con uint256_AddC),(171,.con int256_ValidC),(208,.con muldiv_DivModC),(238,.con int256_NewC)]) (A:=annL [([1000000,240],8,.join ⟨(dd 2 (.ptr 0 [] :: dd 1 (.ptr 1 [] :: dd 1 (.ptr 2 [] :: dd 24 (.pl .bool :: dd 10 []))))),[.box Y_api_Int256 (.pl Y_api_Int256),.box Y_api_Int256 (.pl Y_api_Int256),.box u256 (.pl u256)]⟩)]) ⟨ok40,ok87,ok171,ok208,ok238,trivial⟩ (by intro x; kernel_rfl)
noncomputable def int256_AddC:Con:=⟨⟨[.pl Y_api_Int256,.pl Y_api_Int256],[]⟩,⟨[.pl Y_api_Int256,.pl (.int .i64)],[]⟩,int256_Add K0⟩
theorem ok248:ConOk Tryz.prog 248 int256_AddC:=mkOk (n:=248) (k:=60) (hs:=[(87,.con uint256_AddC),(171,.con int256_ValidC),(220,.con int256_DiffC),(238,.con int256_NewC)]) (A:=annL [([1000000,248],4,.join ⟨(dd 2 (.ptr 0 [] :: .ptr 1 [] :: .ptr 2 [] :: dd 45 [])),[.box Y_api_Int256 (.pl Y_api_Int256),.box Y_api_Int256 (.pl Y_api_Int256),.box Y_api_Int256 (.pl Y_api_Int256)]⟩)]) ⟨ok87,ok171,ok220,ok238,trivial⟩ (by intro x; kernel_rfl)
noncomputable def int256_SubC:Con:=⟨⟨[.pl Y_api_Int256,.pl Y_api_Int256],[]⟩,⟨[.pl Y_api_Int256,.pl (.int .i64)],[]⟩,int256_Sub K0⟩
theorem ok241:ConOk Tryz.prog 241 int256_SubC:=mkOk (n:=241) (k:=60) (hs:=[(171,.con int256_ValidC),(239,.con int256_NegC),(248,.con int256_AddC)]) (A:=annL [([1000000,241],5,.join ⟨(dd 2 (.ptr 0 [] :: dd 1 (.ptr 1 [] :: dd 1 (.ptr 2 [] :: dd 19 [])))),[.box Y_api_Int256 (.pl Y_api_Int256),.box Y_api_Int256 (.pl Y_api_Int256),.box Y_api_Int256 (.pl Y_api_Int256)]⟩)]) ⟨ok171,ok239,ok248,trivial⟩ (by intro x; kernel_rfl)
noncomputable def int256_MulC:Con:=⟨⟨[.pl Y_api_Int256,.pl Y_api_Int256],[]⟩,⟨[.pl Y_api_Int256,.pl (.int .i64)],[]⟩,int256_Mul K0⟩
theorem ok242:ConOk Tryz.prog 242 int256_MulC:=mkOk (n:=242) (k:=60) (hs:=[(165,.con uint256_MulC),(171,.con int256_ValidC),(238,.con int256_NewC)]) (A:=annL [([1000000,242],4,.join ⟨(dd 2 (.ptr 0 [] :: .ptr 1 [] :: .ptr 2 [] :: dd 31 [])),[.box Y_api_Int256 (.pl Y_api_Int256),.box Y_api_Int256 (.pl Y_api_Int256),.box Y_api_Int256 (.pl Y_api_Int256)]⟩)]) ⟨ok165,ok171,ok238,trivial⟩ (by intro x; kernel_rfl)
noncomputable def l1price_DeltaC:Con:=⟨⟨[.pl Y_api_Int256,.pl Y_api_Int256,.pl (.int .u64),.pl Y_api_Params],[]⟩,⟨[.pl Y_api_Int256,.pl (.int .i64)],[]⟩,l1price_Delta K0⟩
theorem ok221:ConOk Tryz.prog 221 l1price_DeltaC:=mkOk (n:=221) (k:=60) (hs:=[(40,.con uint256_FromUint64C),(101,.con params_ValidC),(125,.con uint256_SaturatingAddC),(171,.con int256_ValidC),(239,.con int256_NegC),(240,.con int256_DivFloorC),(241,.con int256_SubC),(242,.con int256_MulC)]) (A:=annL [([1000000,221],6,.join ⟨(dd 2 (.pl (.int .u64) :: dd 1 (.ptr 0 [] :: .ptr 1 [] :: dd 1 (.ptr 2 [] :: .ptr 3 [] :: dd 96 [])))),[.box Y_api_Int256 (.pl Y_api_Int256),.box Y_api_Int256 (.pl Y_api_Int256),.box Y_api_Params (.pl Y_api_Params),.box Y_api_Int256 (.pl Y_api_Int256)]⟩)]) ⟨ok40,ok101,ok125,ok171,ok239,ok240,ok241,ok242,trivial⟩ (by intro x; kernel_rfl)
noncomputable def int256_AddClampedC:Con:=⟨⟨[.pl u256,.pl Y_api_Int256],[]⟩,⟨[.pl u256,.pl (.int .i64)],[]⟩,int256_AddClamped K0⟩
theorem ok222:ConOk Tryz.prog 222 int256_AddClampedC:=mkOk (n:=222) (k:=60) (hs:=[(87,.con uint256_AddC),(168,.con uint256_SaturatingSubC),(171,.con int256_ValidC)]) (A:=fun _ _=>none) ⟨ok87,ok168,ok171,trivial⟩ (by intro x; kernel_rfl)
noncomputable def l1price_NextC:Con:=⟨⟨[.pl u256,.pl Y_api_Int256,.pl Y_api_Int256,.pl (.int .u64),.pl Y_api_Params],[]⟩,⟨[.pl u256,.pl (.int .i64)],[]⟩,l1price_Next K0⟩
theorem ok186:ConOk Tryz.prog 186 l1price_NextC:=mkOk (n:=186) (k:=60) (hs:=[(101,.con params_ValidC),(171,.con int256_ValidC),(221,.con l1price_DeltaC),(222,.con int256_AddClampedC)]) (A:=annL [([1000000,186],5,.join ⟨(dd 3 (.pl (.int .u64) :: dd 1 (.ptr 0 [] :: .ptr 1 [] :: .ptr 2 [] :: dd 1 (.ptr 3 [] :: .ptr 4 [] :: dd 8 (.pl .bool :: dd 30 []))))),[.box u256 (.pl u256),.box Y_api_Int256 (.pl Y_api_Int256),.box Y_api_Int256 (.pl Y_api_Int256),.box Y_api_Params (.pl Y_api_Params),.box u256 (.pl u256)]⟩),([1000000,186],8,.join ⟨(dd 3 (.pl (.int .u64) :: dd 1 (.ptr 0 [] :: .ptr 1 [] :: .ptr 2 [] :: dd 1 (.ptr 3 [] :: .ptr 4 [] :: dd 39 [])))),[.box u256 (.pl u256),.box Y_api_Int256 (.pl Y_api_Int256),.box Y_api_Int256 (.pl Y_api_Int256),.box Y_api_Params (.pl Y_api_Params),.box u256 (.pl u256)]⟩)]) ⟨ok101,ok171,ok221,ok222,trivial⟩ (by intro x; kernel_rfl)
noncomputable def pricer_adjustC:Con:=⟨⟨[.pl Y_api_Pricer,.pl Y_api_Params,.pl u256,.pl Y_pricer_Outcome],[]⟩,⟨[.pl Y_api_Pricer,.pl (.int .i64)],[]⟩,pricer_adjust K0⟩
theorem ok135:ConOk Tryz.prog 135 pricer_adjustC:=mkOk (n:=135) (k:=60) (hs:=[(80,.con payout_SumC),(168,.con uint256_SaturatingSubC),(184,.con poster_TotalDueC),(185,.con l1price_SurplusC),(186,.con l1price_NextC)]) (A:=fun _ _=>none) ⟨ok80,ok168,ok184,ok185,ok186,trivial⟩ (by intro x; kernel_rfl)
noncomputable def pricer_ReportC:Con:=⟨⟨[.pl Y_api_Pricer,.pl Y_api_Params,.pl u256,.pl Y_api_Report,.pl (.int .u64)],[]⟩,⟨[.pl Y_api_Pricer,.pl Y_pricer_Outcome,.pl (.int .i64)],[]⟩,pricer_Report K0⟩
theorem ok78:ConOk Tryz.prog 78 pricer_ReportC:=mkOk (n:=78) (k:=60) (hs:=[(130,.con pricer_checkReportC),(131,.con pricer_allocateC),(132,.con poster_AccrueC),(133,.con payout_PlanC),(134,.con payout_ApplyC),(135,.con pricer_adjustC)]) (A:=annL [([1000000,78],11,.join ⟨(dd 5 (.ptr 0 [] :: .ptr 1 [] :: .ptr 2 [] :: .ptr 3 [] :: dd 1 (.ptr 4 [] :: .ptr 5 [] :: dd 2 (.ptr 6 [] :: .pl (.int .i64) :: dd 86 [])))),[.box Y_api_Pricer (.pl Y_api_Pricer),.box Y_api_Params (.pl Y_api_Params),.box u256 (.pl u256),.box Y_api_Report (.pl Y_api_Report),.box Y_api_Pricer (.pl Y_api_Pricer),.box Y_pricer_Outcome (.pl Y_pricer_Outcome),.box Y_pricer_Outcome (.pl Y_pricer_Outcome)]⟩),([1000000,78],13,.join ⟨(dd 5 (.ptr 0 [] :: .ptr 1 [] :: .ptr 2 [] :: .ptr 3 [] :: dd 1 (.ptr 4 [] :: .ptr 5 [] :: dd 2 (.ptr 6 [] :: .pl (.int .i64) :: dd 86 [])))),[.box Y_api_Pricer (.pl Y_api_Pricer),.box Y_api_Params (.pl Y_api_Params),.box u256 (.pl u256),.box Y_api_Report (.pl Y_api_Report),.box Y_api_Pricer (.pl Y_api_Pricer),.box Y_pricer_Outcome (.pl Y_pricer_Outcome),.box Y_pricer_Outcome (.pl Y_pricer_Outcome)]⟩),([1000000,78],15,.join ⟨(dd 5 (.ptr 0 [] :: dd 2 (.ptr 1 [] :: dd 1 (.ptr 2 [] :: .ptr 3 [] :: dd 2 (.ptr 4 [] :: .pl (.int .i64) :: dd 86 []))))),[.box Y_api_Pricer (.pl Y_api_Pricer),.box Y_api_Report (.pl Y_api_Report),.box Y_api_Pricer (.pl Y_api_Pricer),.box Y_pricer_Outcome (.pl Y_pricer_Outcome),.box Y_pricer_Outcome (.pl Y_pricer_Outcome)]⟩),([1000000,78],9,.join ⟨(dd 5 (.ptr 0 [] :: .ptr 1 [] :: .ptr 2 [] :: .ptr 3 [] :: dd 1 (.ptr 4 [] :: .ptr 5 [] :: dd 2 (.ptr 6 [] :: .pl (.int .i64) :: dd 86 [])))),[.box Y_api_Pricer (.pl Y_api_Pricer),.box Y_api_Params (.pl Y_api_Params),.box u256 (.pl u256),.box Y_api_Report (.pl Y_api_Report),.box Y_api_Pricer (.pl Y_api_Pricer),.box Y_pricer_Outcome (.pl Y_pricer_Outcome),.box Y_pricer_Outcome (.pl Y_pricer_Outcome)]⟩)]) ⟨ok130,ok131,ok132,ok133,ok134,ok135,trivial⟩ (by intro x; kernel_rfl)
noncomputable def ledger_Ledger_VaultC:Con:=⟨⟨[.bp Y_ledger_Ledger,.pl (.int .i64)],[]⟩,⟨[.pl u256],[]⟩,ledger_Ledger_Vault K0⟩
theorem ok79:ConOk Tryz.prog 79 ledger_Ledger_VaultC:=mkOk (n:=79) (k:=140) (hs:=[(123,.con ledger_isVaultC)]) (A:=fun _ _=>none) ⟨ok123,trivial⟩ (by intro x; kernel_rfl)
noncomputable def ledger_Ledger_WithdrawVaultC:Con:=⟨⟨[.ptr 0 [],.pl (.int .i64),.pl u256],H_ledger_Ledger⟩,⟨[.pl (.int .i64)],H_ledger_Ledger⟩,ledger_Ledger_WithdrawVault K0⟩
theorem ok81:ConOk Tryz.prog 81 ledger_Ledger_WithdrawVaultC:=mkOk (n:=81) (k:=140) (hs:=[(123,.con ledger_isVaultC),(136,.con uint256_SubC)]) (A:=fun _ _=>none) ⟨ok123,ok136,trivial⟩ (by intro x; kernel_rfl)
noncomputable def executor_Machine_reportC:Con:=⟨⟨[.ptr 0 [],.pl Y_api_Step],H_executor_Machine⟩,⟨[.pl Y_api_Receipt,.pl (.int .i64)],H_executor_Machine⟩,executor_Machine_report K0⟩
theorem ok54:ConOk Tryz.prog 54 executor_Machine_reportC:=mkOk (n:=54) (k:=140) (hs:=[(78,.con pricer_ReportC),(79,.con ledger_Ledger_VaultC),(80,.con payout_SumC),(81,.con ledger_Ledger_WithdrawVaultC),(82,.con executor_Machine_sendC)]) (A:=annL [([54],0,.tmpl ⟨(.ptr 0 [] :: dd 3 (.ptr 11 [] :: dd 5 (.ptr 13 [] :: dd 52 (.pl (.sl Y_api_Payment) :: .pl (.int .i64) :: .pl (.int .i64) :: dd 23 (.ptr 0 [] :: .ptr 1 [] :: .ptr 3 [] :: .ptr 5 [] :: .ptr 7 [] :: []))))),[.box Y_executor_Machine ((.pair (.pl (.int .u64)) ((.pair (.pl Y_api_Params) ((.pair (.pl Y_api_Block) ((.pair (.pl (.int .u64)) ((.pair (.pl Y_api_Pricer) ((.pair (.ptr 1 []) ((.pair (.ptr 3 []) ((.pair (.ptr 7 []) (.pl .nil))))))))))))))))),.box Y_ledger_Ledger ((.pair (.whole 2) (.pl (.cons (.arr 4 u256) .nil)))),.row Y_api_Account,.box Y_outbox_Outbox ((.pair (.whole 4) ((.pair (.ptr 5 []) (.pl .nil))))),.row Y_api_Report,.box (.cons (.sl (.arr 32 (.int .u8))) .nil) ((.pair (.whole 6) (.pl .nil))),.row (.arr 32 (.int .u8)),.box Y_escrow_Escrow ((.pair (.whole 8) ((.pair (.whole 9) ((.pair (.pl u256) ((.pair (.whole 10) (.pl .nil))))))))),.row (.arr 32 (.int .u8)),.row .bool,.row Y_api_Payment,.box Y_api_Receipt ((.pair (.pl (.int .i64)) ((.pair (.pl (.int .i64)) ((.pair (.pl Y_api_Charge) ((.pair (.pl u256) ((.pair (.pl u256) ((.pair (.pl (.int .u64)) ((.pair (.pl u256) ((.pair (.pl u256) ((.pair (.whole 12) (.pl .nil))))))))))))))))))),.row Y_api_Report,.box Y_api_Receipt ((.pair (.pl (.int .i64)) ((.pair (.pl (.int .i64)) ((.pair (.pl Y_api_Charge) ((.pair (.pl u256) ((.pair (.pl u256) ((.pair (.pl (.int .u64)) ((.pair (.pl u256) ((.pair (.pl u256) ((.pair (.whole 14) (.pl .nil))))))))))))))))))),.row Y_api_Report]⟩)]) ⟨ok78,ok79,ok80,ok81,ok82,trivial⟩ (by intro x; kernel_rfl)
noncomputable def block_NextC:Con:=⟨⟨[.pl Y_api_Block,.pl (.int .u64),.pl (.int .u64),.pl Y_api_Params],[]⟩,⟨[.pl Y_api_Block,.pl (.int .i64)],[]⟩,block_Next K0⟩
theorem ok84:ConOk Tryz.prog 84 block_NextC:=mkOk (n:=84) (k:=60) (hs:=[(41,.con basefee_FeeC),(101,.con params_ValidC),(121,.con add64C)]) (A:=annL [([1000000,84],10,.join ⟨(dd 2 (.pl (.int .u64) :: dd 4 (.ptr 0 [] :: .ptr 1 [] :: dd 1 (.pl (.int .u64) :: dd 1 (.pl (.int .u64) :: dd 51 []))))),[.box Y_api_Params (.pl Y_api_Params),.box Y_api_Block (.pl Y_api_Block)]⟩),([1000000,84],5,.join ⟨(dd 2 (.pl (.int .u64) :: dd 4 (.ptr 0 [] :: .ptr 1 [] :: dd 1 (.pl (.int .u64) :: .pl (.int .u64) :: .pl (.int .u64) :: .pl (.int .u64) :: dd 15 (.pl .bool :: dd 34 []))))),[.box Y_api_Params (.pl Y_api_Params),.box Y_api_Block (.pl Y_api_Block)]⟩)]) ⟨ok41,ok101,ok121,trivial⟩ (by intro x; kernel_rfl)
noncomputable def executor_Machine_tickC:Con:=⟨⟨[.ptr 0 [],.pl Y_api_Step],H_executor_Machine⟩,⟨[.pl Y_api_Receipt,.pl (.int .i64)],H_executor_Machine⟩,executor_Machine_tick K0⟩
theorem ok55:ConOk Tryz.prog 55 executor_Machine_tickC:=mkOk (n:=55) (k:=140) (hs:=[(83,.con backlog_DrainC),(84,.con block_NextC)]) (A:=fun _ _=>none) ⟨ok83,ok84,trivial⟩ (by intro x; kernel_rfl)
noncomputable def params_uint256FieldC:Con:=⟨⟨[.pl .opq,.pl (.int .i64)],[]⟩,⟨[.pl .opq],[]⟩,params_uint256Field K0⟩
theorem ok141:ConOk Tryz.prog 141 params_uint256FieldC:=mkOk (n:=141) (k:=60) (hs:=[]) (A:=fun _ _=>none) trivial (by intro x; kernel_rfl)
noncomputable def params_uint64FieldC:Con:=⟨⟨[.pl .opq,.pl (.int .i64)],[]⟩,⟨[.pl .opq],[]⟩,params_uint64Field K0⟩
theorem ok142:ConOk Tryz.prog 142 params_uint64FieldC:=mkOk (n:=142) (k:=60) (hs:=[]) (A:=fun _ _=>none) trivial (by intro x; kernel_rfl)
noncomputable def params_SetC:Con:=⟨⟨[.pl Y_api_Params,.pl (.int .i64),.pl u256],[]⟩,⟨[.pl Y_api_Params,.pl (.int .i64)],[]⟩,params_Set K0⟩
theorem ok85:ConOk Tryz.prog 85 params_SetC:=mkOk (n:=85) (k:=60) (hs:=[(101,.con params_ValidC),(140,.con uint256_Uint64C),(141,.con params_uint256FieldC),(142,.con params_uint64FieldC)]) (A:=annL [([1000000,85],11,.unroll 0),([1000000,85],6,.unroll 0),([1000000,85],8,.unroll 0)]) ⟨ok101,ok140,ok141,ok142,trivial⟩ (by intro x; kernel_rfl)
noncomputable def executor_Machine_setParamC:Con:=⟨⟨[.ptr 0 [],.pl Y_api_Step],H_executor_Machine⟩,⟨[.pl Y_api_Receipt,.pl (.int .i64)],H_executor_Machine⟩,executor_Machine_setParam K0⟩
theorem ok56:ConOk Tryz.prog 56 executor_Machine_setParamC:=mkOk (n:=56) (k:=140) (hs:=[(85,.con params_SetC)]) (A:=fun _ _=>none) ⟨ok85,trivial⟩ (by intro x; kernel_rfl)
theorem ok190:ConOk Tryz.prog 190 insertC:=ins_ok (t:=Y_api_Poster) (ρ:=⟨rnm [(22,190),(29,224),(30,225)],rnm [(24,43),(9,94),(3,3),(4,4)],fun x=>x⟩) ⟨by decide,follows,⟨Tryz.f190.name,by kernel_rfl,by kernel_rfl⟩,by kernel_rfl,fun _=>by kernel_rfl,fun _=>by kernel_rfl,by kernel_rfl,by kernel_rfl,Tryz.f224,by kernel_rfl,by kernel_rfl,by kernel_rfl,by kernel_rfl,by kernel_rfl⟩ (ti_ok (by kernel_rfl)) (ti_ok (by kernel_rfl)) rfl (by decide) noOddP
noncomputable def poster_AddC:Con:=⟨⟨[.pl (.sl Y_api_Poster),.pl (.int .u64)],[]⟩,⟨[.pl (.sl Y_api_Poster),.pl (.int .i64)],[]⟩,poster_Add K0⟩
theorem ok143:ConOk Tryz.prog 143 poster_AddC:=mkOk (n:=143) (k:=60) (hs:=[(28,.con slices_Clone___api_Poster_api_Poster_C),(170,.con poster_ValidC),(177,.con poster_FindC),(190,.con insertC)]) (A:=annL [([1000000,143],11,.join ⟨(.pl (.sl Y_api_Poster) :: .pl (.int .u64) :: dd 4 (.pl (.int .i64) :: dd 39 [])),[]⟩),([1000000,143],3,.join ⟨(.pl (.sl Y_api_Poster) :: .pl (.int .u64) :: dd 5 (.pl .bool :: dd 38 [])),[]⟩),([1000000,143],8,.join ⟨(.pl (.sl Y_api_Poster) :: .pl (.int .u64) :: dd 44 []),[]⟩),([143],1,.tmpl ⟨(.pl (.sl Y_api_Poster) :: .pl (.int .u64) :: dd 4 (.pl (.int .i64) :: dd 39 [])),[]⟩)]) ⟨ok28,ok170,ok177,ok190,trivial⟩ (by intro x; kernel_rfl)
noncomputable def pricer_AddPosterC:Con:=⟨⟨[.pl Y_api_Pricer,.pl (.int .u64)],[]⟩,⟨[.pl Y_api_Pricer,.pl (.int .i64)],[]⟩,pricer_AddPoster K0⟩
theorem ok86:ConOk Tryz.prog 86 pricer_AddPosterC:=mkOk (n:=86) (k:=60) (hs:=[(120,.con pricer_ValidC),(143,.con poster_AddC)]) (A:=fun _ _=>none) ⟨ok120,ok143,trivial⟩ (by intro x; kernel_rfl)
noncomputable def executor_Machine_addPosterC:Con:=⟨⟨[.ptr 0 [],.pl Y_api_Step],H_executor_Machine⟩,⟨[.pl Y_api_Receipt,.pl (.int .i64)],H_executor_Machine⟩,executor_Machine_addPoster K0⟩
theorem ok57:ConOk Tryz.prog 57 executor_Machine_addPosterC:=mkOk (n:=57) (k:=140) (hs:=[(86,.con pricer_AddPosterC)]) (A:=fun _ _=>none) ⟨ok86,trivial⟩ (by intro x; kernel_rfl)
noncomputable def escrow_Escrow_BalanceC:Con:=⟨⟨[.bp Y_escrow_Escrow],[]⟩,⟨[.pl u256],[]⟩,escrow_Escrow_Balance K0⟩
theorem ok26:ConOk Tryz.prog 26 escrow_Escrow_BalanceC:=mkOk (n:=26) (k:=140) (hs:=[]) (A:=fun _ _=>none) trivial (by intro x; kernel_rfl)
noncomputable def ledger_Ledger_SupplyC:Con:=⟨⟨[.bp Y_ledger_Ledger],[]⟩,⟨[.pl u256],[]⟩,ledger_Ledger_Supply K0⟩
theorem ok88:ConOk Tryz.prog 88 ledger_Ledger_SupplyC:=mkOk (n:=88) (k:=140) (hs:=[(125,.con uint256_SaturatingAddC)]) (A:=annL [([88],0,.tmpl ⟨(.bp Y_ledger_Ledger :: dd 1 (.ptr 0 [] :: .ptr 1 [] :: dd 10 (.pl (.sl Y_api_Account) :: .pl (.int .i64) :: .pl (.int .i64) :: dd 20 []))),[.box u256 (.pl u256),.box u256 (.pl u256)]⟩),([88],2,.tmpl ⟨(dd 2 (.ptr 0 [] :: .ptr 1 [] :: dd 24 (.pl (.arr 4 u256) :: .pl (.int .i64) :: dd 7 []))),[.box u256 (.pl u256),.box u256 (.pl u256)]⟩)]) ⟨ok125,trivial⟩ (by intro x; kernel_rfl)
noncomputable def escrow_Escrow_DepositC:Con:=⟨⟨[.ptr 0 [],.pl u256],H_escrow_Escrow⟩,⟨[.pl (.int .i64)],H_escrow_Escrow⟩,escrow_Escrow_Deposit K0⟩
theorem ok89:ConOk Tryz.prog 89 escrow_Escrow_DepositC:=mkOk (n:=89) (k:=140) (hs:=[(87,.con uint256_AddC)]) (A:=fun _ _=>none) ⟨ok87,trivial⟩ (by intro x; kernel_rfl)
noncomputable def ledger_Ledger_MintC:Con:=⟨⟨[.ptr 0 [],.pl (.int .u64),.pl u256],H_ledger_Ledger⟩,⟨[.pl (.int .i64)],H_ledger_Ledger⟩,ledger_Ledger_Mint K0⟩
theorem ok90:ConOk Tryz.prog 90 ledger_Ledger_MintC:=mkOk (n:=90) (k:=140) (hs:=[(87,.con uint256_AddC),(88,.con ledger_Ledger_SupplyC),(144,.con ledger_Ledger_creditC)]) (A:=fun _ _=>none) ⟨ok87,ok88,ok144,trivial⟩ (by intro x; kernel_rfl)
noncomputable def executor_Machine_depositC:Con:=⟨⟨[.ptr 0 [],.pl Y_api_Step],H_executor_Machine⟩,⟨[.pl Y_api_Receipt,.pl (.int .i64)],H_executor_Machine⟩,executor_Machine_deposit K0⟩
theorem ok58:ConOk Tryz.prog 58 executor_Machine_depositC:=mkOk (n:=58) (k:=140) (hs:=[(26,.con escrow_Escrow_BalanceC),(87,.con uint256_AddC),(88,.con ledger_Ledger_SupplyC),(89,.con escrow_Escrow_DepositC),(90,.con ledger_Ledger_MintC)]) (A:=annL [([1000000,58],4,.join ⟨(.ptr 0 [] :: dd 2 (.ptr 11 [] :: .ptr 12 [] :: dd 66 (.ptr 0 [] :: .ptr 1 [] :: .ptr 3 [] :: .ptr 5 [] :: .ptr 7 [] :: []))),[.box Y_executor_Machine ((.pair (.pl (.int .u64)) ((.pair (.pl Y_api_Params) ((.pair (.pl Y_api_Block) ((.pair (.pl (.int .u64)) ((.pair (.pl Y_api_Pricer) ((.pair (.ptr 1 []) ((.pair (.ptr 3 []) ((.pair (.ptr 7 []) (.pl .nil))))))))))))))))),.box Y_ledger_Ledger ((.pair (.whole 2) (.pl (.cons (.arr 4 u256) .nil)))),.row Y_api_Account,.box Y_outbox_Outbox ((.pair (.whole 4) ((.pair (.ptr 5 []) (.pl .nil))))),.row Y_api_Report,.box (.cons (.sl (.arr 32 (.int .u8))) .nil) ((.pair (.whole 6) (.pl .nil))),.row (.arr 32 (.int .u8)),.box Y_escrow_Escrow ((.pair (.whole 8) ((.pair (.whole 9) ((.pair (.pl u256) ((.pair (.whole 10) (.pl .nil))))))))),.row (.arr 32 (.int .u8)),.row .bool,.row Y_api_Payment,.box Y_api_Step (.pl Y_api_Step),.box Y_api_Receipt ((.pair (.pl (.int .i64)) ((.pair (.pl (.int .i64)) ((.pair (.pl Y_api_Charge) ((.pair (.pl u256) ((.pair (.pl u256) ((.pair (.pl (.int .u64)) ((.pair (.pl u256) ((.pair (.pl u256) ((.pair (.whole 13) (.pl .nil))))))))))))))))))),.row Y_api_Report]⟩),([1000000,58],8,.join ⟨(.ptr 0 [] :: dd 2 (.ptr 11 [] :: .ptr 12 [] :: dd 66 (.ptr 0 [] :: .ptr 1 [] :: .ptr 3 [] :: .ptr 5 [] :: .ptr 7 [] :: []))),[.box Y_executor_Machine ((.pair (.pl (.int .u64)) ((.pair (.pl Y_api_Params) ((.pair (.pl Y_api_Block) ((.pair (.pl (.int .u64)) ((.pair (.pl Y_api_Pricer) ((.pair (.ptr 1 []) ((.pair (.ptr 3 []) ((.pair (.ptr 7 []) (.pl .nil))))))))))))))))),.box Y_ledger_Ledger ((.pair (.whole 2) (.pl (.cons (.arr 4 u256) .nil)))),.row Y_api_Account,.box Y_outbox_Outbox ((.pair (.whole 4) ((.pair (.ptr 5 []) (.pl .nil))))),.row Y_api_Report,.box (.cons (.sl (.arr 32 (.int .u8))) .nil) ((.pair (.whole 6) (.pl .nil))),.row (.arr 32 (.int .u8)),.box Y_escrow_Escrow ((.pair (.whole 8) ((.pair (.whole 9) ((.pair (.pl u256) ((.pair (.whole 10) (.pl .nil))))))))),.row (.arr 32 (.int .u8)),.row .bool,.row Y_api_Payment,.box Y_api_Step (.pl Y_api_Step),.box Y_api_Receipt ((.pair (.pl (.int .i64)) ((.pair (.pl (.int .i64)) ((.pair (.pl Y_api_Charge) ((.pair (.pl u256) ((.pair (.pl u256) ((.pair (.pl (.int .u64)) ((.pair (.pl u256) ((.pair (.pl u256) ((.pair (.whole 13) (.pl .nil))))))))))))))))))),.row Y_api_Report]⟩)]) ⟨ok26,ok87,ok88,ok89,ok90,trivial⟩ (by intro x; kernel_rfl)
noncomputable def merkle_rootFromC:Con:=⟨⟨[.pl (.int .i64),.pl (.int .i64),.pl (.arr 32 (.int .u8)),.pl (.sl (.arr 32 (.int .u8)))],[]⟩,⟨[.pl (.arr 32 (.int .u8)),.pl .bool],[]⟩,merkle_rootFrom K0⟩
noncomputable def merkle_rootFromK (k0:Nat):Con:=⟨⟨[.pl (.int .i64),.pl (.int .i64),.pl (.arr 32 (.int .u8)),.pl (.sl (.arr 32 (.int .u8)))],[]⟩,⟨[.pl (.arr 32 (.int .u8)),.pl .bool],[]⟩,merkle_rootFrom_rec K0 k0⟩
theorem okr228:∀ k0,ConOk Tryz.prog 228 (merkle_rootFromK k0)
  | 0=>fun x y h=>by cases h
  | k0 + 1=>mkOk (n:=228) (k:=60) (hs:=[(112,.con merkle_splitPointC),(163,.con hash_NodeC),(228,.con (merkle_rootFromK k0))]) (A:=fun _ _=>none) ⟨ok112,ok163,(okr228 k0),trivial⟩ (by intro x; kernel_rfl)
theorem ok228:ConOk Tryz.prog 228 merkle_rootFromC:=okr228 K0
noncomputable def merkle_VerifyC:Con:=⟨⟨[.pl (.arr 32 (.int .u8)),.pl (.int .i64),.pl (.int .i64),.pl (.arr 32 (.int .u8)),.pl (.sl (.arr 32 (.int .u8)))],[]⟩,⟨[.pl .bool],[]⟩,merkle_Verify K0⟩
theorem ok192:ConOk Tryz.prog 192 merkle_VerifyC:=mkOk (n:=192) (k:=60) (hs:=[(228,.con merkle_rootFromC)]) (A:=annL [([1000000,192],4,.join ⟨(dd 1 (.pl (.int .i64) :: .pl (.int .i64) :: dd 1 (.pl (.sl (.arr 32 (.int .u8))) :: .ptr 0 [] :: dd 2 (.ptr 1 [] :: dd 25 [])))),[.box (.arr 32 (.int .u8)) (.pl (.arr 32 (.int .u8))),.box (.arr 32 (.int .u8)) (.pl (.arr 32 (.int .u8)))]⟩)]) ⟨ok228,trivial⟩ (by intro x; kernel_rfl)
noncomputable def escrow_Escrow_checkClaimC:Con:=⟨⟨[.ptr 0 [],.pl Y_api_Claim],H_escrow_Escrow⟩,⟨[.pl (.int .i64)],H_escrow_Escrow⟩,escrow_Escrow_checkClaim K0⟩
theorem ok145:ConOk Tryz.prog 145 escrow_Escrow_checkClaimC:=mkOk (n:=145) (k:=140) (hs:=[(191,.con outbox_LeafC),(192,.con merkle_VerifyC)]) (A:=annL [([1000000,145],10,.join ⟨(.ptr 0 [] :: dd 2 (.ptr 4 [] :: dd 80 (.ptr 0 [] :: []))),[.box Y_escrow_Escrow ((.pair (.whole 1) ((.pair (.whole 2) ((.pair (.pl u256) ((.pair (.whole 3) (.pl .nil))))))))),.row (.arr 32 (.int .u8)),.row .bool,.row Y_api_Payment,.box Y_api_Claim (.pl Y_api_Claim)]⟩),([1000000,145],5,.join ⟨(.ptr 0 [] :: dd 2 (.ptr 4 [] :: dd 5 (.pl .bool :: dd 74 (.ptr 0 [] :: [])))),[.box Y_escrow_Escrow ((.pair (.whole 1) ((.pair (.whole 2) ((.pair (.pl u256) ((.pair (.whole 3) (.pl .nil))))))))),.row (.arr 32 (.int .u8)),.row .bool,.row Y_api_Payment,.box Y_api_Claim (.pl Y_api_Claim)]⟩),([1000000,145],7,.join ⟨(.ptr 0 [] :: dd 2 (.ptr 4 [] :: dd 21 (.pl .bool :: dd 58 (.ptr 0 [] :: [])))),[.box Y_escrow_Escrow ((.pair (.whole 1) ((.pair (.whole 2) ((.pair (.pl u256) ((.pair (.whole 3) (.pl .nil))))))))),.row (.arr 32 (.int .u8)),.row .bool,.row Y_api_Payment,.box Y_api_Claim (.pl Y_api_Claim)]⟩)]) ⟨ok191,ok192,trivial⟩ (by intro x; kernel_rfl)
noncomputable def escrow_Escrow_findC:Con:=⟨⟨[.bp Y_escrow_Escrow,.pl (.int .u64)],[]⟩,⟨[.pl (.int .i64),.pl .bool],[]⟩,escrow_Escrow_find K0⟩
theorem ok147:ConOk Tryz.prog 147 escrow_Escrow_findC:=mkOk (n:=147) (k:=200) (hs:=[(193,.inl),(194,.inl),(195,.inl),(229,.inl)]) (A:=annL [([193,1,5,147],0,.tmpl ⟨(.pl (.sl Y_api_Payment) :: .pl (.int .u64) :: .fn 194 :: dd 5 (.pl (.int .i64) :: .pl (.int .i64) :: .pl (.int .i64) :: dd 52 [])),[]⟩)]) trivial (by intro x; kernel_rfl)
noncomputable def escrow_Escrow_L1BalanceC:Con:=⟨⟨[.bp Y_escrow_Escrow,.pl (.int .u64)],[]⟩,⟨[.pl u256],[]⟩,escrow_Escrow_L1Balance K0⟩
theorem ok146:ConOk Tryz.prog 146 escrow_Escrow_L1BalanceC:=mkOk (n:=146) (k:=140) (hs:=[(147,.con escrow_Escrow_findC)]) (A:=fun _ _=>none) ⟨ok147,trivial⟩ (by intro x; kernel_rfl)
theorem ok148:ConOk Tryz.prog 148 (insC Y_api_Payment):=ins_ok (t:=Y_api_Payment) (ρ:=⟨rnm [(22,148),(29,196),(30,197)],rnm [(24,49),(9,137),(3,3),(4,4)],fun x=>x⟩) ⟨by decide,follows,⟨Tryz.f148.name,by kernel_rfl,by kernel_rfl⟩,by kernel_rfl,fun _=>by kernel_rfl,fun _=>by kernel_rfl,by kernel_rfl,by kernel_rfl,Tryz.f196,by kernel_rfl,by kernel_rfl,by kernel_rfl,by kernel_rfl,by kernel_rfl⟩ (ti_ok (by kernel_rfl)) (ti_ok (by kernel_rfl)) rfl (by decide) noOddP
noncomputable def escrow_Escrow_ClaimC:Con:=⟨⟨[.ptr 0 [],.pl Y_api_Claim],H_escrow_Escrow⟩,⟨[.pl (.int .i64)],H_escrow_Escrow⟩,escrow_Escrow_Claim K0⟩
theorem ok91:ConOk Tryz.prog 91 escrow_Escrow_ClaimC:=mkOk (n:=91) (k:=140) (hs:=[(87,.con uint256_AddC),(136,.con uint256_SubC),(145,.con escrow_Escrow_checkClaimC),(146,.con escrow_Escrow_L1BalanceC),(147,.con escrow_Escrow_findC),(148,.con (insC Y_api_Payment))]) (A:=fun _ _=>none) ⟨ok87,ok136,ok145,ok146,ok147,ok148,trivial⟩ (by intro x; kernel_rfl)
noncomputable def executor_Machine_claimC:Con:=⟨⟨[.ptr 0 [],.pl Y_api_Step],H_executor_Machine⟩,⟨[.pl Y_api_Receipt,.pl (.int .i64)],H_executor_Machine⟩,executor_Machine_claim K0⟩
theorem ok59:ConOk Tryz.prog 59 executor_Machine_claimC:=mkOk (n:=59) (k:=140) (hs:=[(91,.con escrow_Escrow_ClaimC)]) (A:=fun _ _=>none) ⟨ok91,trivial⟩ (by intro x; kernel_rfl)
noncomputable def executor_Machine_ExecuteC:Con:=⟨⟨[.ptr 0 [],.pl Y_api_Step],H_executor_Machine⟩,⟨[.pl Y_api_Receipt],H_executor_Machine⟩,executor_Machine_Execute K0⟩
theorem ok12:ConOk Tryz.prog 12 executor_Machine_ExecuteC:=mkOk (n:=12) (k:=240) (hs:=[(22,.con executor_Machine_countC),(38,.inl),(53,.con executor_Machine_transactionC),(54,.con executor_Machine_reportC),(55,.con executor_Machine_tickC),(56,.con executor_Machine_setParamC),(57,.con executor_Machine_addPosterC),(58,.con executor_Machine_depositC),(59,.con executor_Machine_claimC)]) (A:=fun _ _=>none) ⟨ok22,ok53,ok54,ok55,ok56,ok57,ok58,ok59,trivial⟩ (by intro x; kernel_rfl)
noncomputable def wirereader_NewC:Con:=⟨⟨[.pl (.sl (.int .u8))],[]⟩,⟨[.ptr 0 []],[.box Y_wirereader_Reader (.pl Y_wirereader_Reader)]⟩,wirereader_New K0⟩
theorem ok43:ConOk Tryz.prog 43 wirereader_NewC:=mkOk (n:=43) (k:=140) (hs:=[]) (A:=fun _ _=>none) trivial (by intro x; kernel_rfl)
noncomputable def wirereader_Reader_ByteC:Con:=⟨⟨[.ptr 0 []],[.box Y_wirereader_Reader (.pl Y_wirereader_Reader)]⟩,⟨[.pl (.int .u8)],[.box Y_wirereader_Reader (.pl Y_wirereader_Reader)]⟩,wirereader_Reader_Byte K0⟩
theorem ok44:ConOk Tryz.prog 44 wirereader_Reader_ByteC:=mkOk (n:=44) (k:=140) (hs:=[]) (A:=annL [([1000000,44],5,.join ⟨(.ptr 0 [] :: dd 39 (.ptr 0 [] :: [])),[.box Y_wirereader_Reader (.pl Y_wirereader_Reader)]⟩)]) trivial (by intro x; kernel_rfl)
noncomputable def wirereader_Reader_DoneC:Con:=⟨⟨[.bp Y_wirereader_Reader],[]⟩,⟨[.pl .bool],[]⟩,wirereader_Reader_Done K0⟩
theorem ok46:ConOk Tryz.prog 46 wirereader_Reader_DoneC:=mkOk (n:=46) (k:=140) (hs:=[]) (A:=fun _ _=>none) trivial (by intro x; kernel_rfl)
noncomputable def wire_readUintC:Con:=⟨⟨[.pl (.sl (.int .u8)),.pl (.int .i64),.pl (.int .i64)],[]⟩,⟨[.pl u256,.pl (.int .i64),.pl (.int .i64)],[]⟩,wire_readUint K0⟩
theorem ok162:ConOk Tryz.prog 162 wire_readUintC:=mkOk (n:=162) (k:=60) (hs:=[]) (A:=annL [([1000000,162],11,.join ⟨(dd 1 (.pl (.int .i64) :: dd 4 (.ptr 0 [] :: dd 2 (.pl (.sl (.int .u8)) :: .pl (.int .i64) :: dd 74 [])))),[.box u256 (.pl u256)]⟩),([1000000,162],4,.join ⟨(.pl (.sl (.int .u8)) :: .pl (.int .i64) :: .pl (.int .i64) :: dd 3 (.ptr 0 [] :: dd 78 [])),[.box u256 (.pl u256)]⟩),([162],0,.tmpl ⟨(dd 1 (.pl (.int .i64) :: dd 4 (.ptr 0 [] :: dd 2 (.pl (.sl (.int .u8)) :: .pl (.int .i64) :: .ptr 1 [] :: dd 44 (.pl (.int .i64) :: .pl (.int .i64) :: dd 27 []))))),[.box u256 (.pl u256),.box u256 (.pl u256)]⟩)]) trivial (by intro x; kernel_rfl)
noncomputable def wire_ReadUint64C:Con:=⟨⟨[.pl (.sl (.int .u8)),.pl (.int .i64)],[]⟩,⟨[.pl (.int .u64),.pl (.int .i64),.pl (.int .i64)],[]⟩,wire_ReadUint64 K0⟩
theorem ok109:ConOk Tryz.prog 109 wire_ReadUint64C:=mkOk (n:=109) (k:=60) (hs:=[(162,.con wire_readUintC)]) (A:=fun _ _=>none) ⟨ok162,trivial⟩ (by intro x; kernel_rfl)
noncomputable def slices_Clone___byte_byte_cC:Con:=⟨⟨[.pl (.sl (.int .u8))],[]⟩,⟨[.pl (.sl (.int .u8))],[]⟩,slices_Clone___byte_byte_c K0⟩
theorem okc161:ConOk Tryz.prog 161 slices_Clone___byte_byte_cC:=mkOk (n:=161) (k:=60) (hs:=[]) (A:=fun _ _=>none) trivial (by intro x; exact Eq.trans (b:=slices_Clone___byte_byte_ K0 x) (by kernel_rfl) (slices_Clone___byte_byte_c_eq K0 x))
noncomputable def wire_ReadBytesC:Con:=⟨⟨[.pl (.sl (.int .u8)),.pl (.int .i64)],[]⟩,⟨[.pl (.sl (.int .u8)),.pl (.int .i64),.pl (.int .i64)],[]⟩,wire_ReadBytes K0⟩
theorem ok107:ConOk Tryz.prog 107 wire_ReadBytesC:=mkOk (n:=107) (k:=60) (hs:=[(109,.con wire_ReadUint64C),(161,.con slices_Clone___byte_byte_cC)]) (A:=fun _ _=>none) ⟨ok109,okc161,trivial⟩ (by intro x; kernel_rfl)
noncomputable def wirereader_Reader_advanceC:Con:=⟨⟨[.ptr 0 [],.pl (.int .i64),.pl (.int .i64)],[.box Y_wirereader_Reader (.pl Y_wirereader_Reader)]⟩,⟨[.pl .bool],[.box Y_wirereader_Reader (.pl Y_wirereader_Reader)]⟩,wirereader_Reader_advance K0⟩
theorem ok108:ConOk Tryz.prog 108 wirereader_Reader_advanceC:=mkOk (n:=108) (k:=140) (hs:=[]) (A:=fun _ _=>none) trivial (by intro x; kernel_rfl)
noncomputable def wirereader_Reader_BytesC:Con:=⟨⟨[.ptr 0 []],[.box Y_wirereader_Reader (.pl Y_wirereader_Reader)]⟩,⟨[.pl (.sl (.int .u8))],[.box Y_wirereader_Reader (.pl Y_wirereader_Reader)]⟩,wirereader_Reader_Bytes K0⟩
theorem ok65:ConOk Tryz.prog 65 wirereader_Reader_BytesC:=mkOk (n:=65) (k:=140) (hs:=[(107,.con wire_ReadBytesC),(108,.con wirereader_Reader_advanceC)]) (A:=fun _ _=>none) ⟨ok107,ok108,trivial⟩ (by intro x; kernel_rfl)
noncomputable def wirereader_Reader_Uint64C:Con:=⟨⟨[.ptr 0 []],[.box Y_wirereader_Reader (.pl Y_wirereader_Reader)]⟩,⟨[.pl (.int .u64)],[.box Y_wirereader_Reader (.pl Y_wirereader_Reader)]⟩,wirereader_Reader_Uint64 K0⟩
theorem ok66:ConOk Tryz.prog 66 wirereader_Reader_Uint64C:=mkOk (n:=66) (k:=140) (hs:=[(108,.con wirereader_Reader_advanceC),(109,.con wire_ReadUint64C)]) (A:=fun _ _=>none) ⟨ok108,ok109,trivial⟩ (by intro x; kernel_rfl)
noncomputable def wire_ReadUint256C:Con:=⟨⟨[.pl (.sl (.int .u8)),.pl (.int .i64)],[]⟩,⟨[.pl u256,.pl (.int .i64),.pl (.int .i64)],[]⟩,wire_ReadUint256 K0⟩
theorem ok110:ConOk Tryz.prog 110 wire_ReadUint256C:=mkOk (n:=110) (k:=60) (hs:=[(162,.con wire_readUintC)]) (A:=fun _ _=>none) ⟨ok162,trivial⟩ (by intro x; kernel_rfl)
noncomputable def wirereader_Reader_Uint256C:Con:=⟨⟨[.ptr 0 []],[.box Y_wirereader_Reader (.pl Y_wirereader_Reader)]⟩,⟨[.pl u256],[.box Y_wirereader_Reader (.pl Y_wirereader_Reader)]⟩,wirereader_Reader_Uint256 K0⟩
theorem ok67:ConOk Tryz.prog 67 wirereader_Reader_Uint256C:=mkOk (n:=67) (k:=140) (hs:=[(108,.con wirereader_Reader_advanceC),(110,.con wire_ReadUint256C)]) (A:=fun _ _=>none) ⟨ok108,ok110,trivial⟩ (by intro x; kernel_rfl)
noncomputable def tx_DecodeC:Con:=⟨⟨[.pl (.sl (.int .u8))],[]⟩,⟨[.pl Y_api_Transaction,.pl (.int .i64)],[]⟩,tx_Decode K0⟩
theorem ok64:ConOk Tryz.prog 64 tx_DecodeC:=mkOk (n:=64) (k:=60) (hs:=[(43,.con wirereader_NewC),(46,.con wirereader_Reader_DoneC),(65,.con wirereader_Reader_BytesC),(66,.con wirereader_Reader_Uint64C),(67,.con wirereader_Reader_Uint256C)]) (A:=fun _ _=>none) ⟨ok43,ok46,ok65,ok66,ok67,trivial⟩ (by intro x; kernel_rfl)
noncomputable def wirereader_Reader_HashC:Con:=⟨⟨[.ptr 0 []],[.box Y_wirereader_Reader (.pl Y_wirereader_Reader)]⟩,⟨[.pl (.arr 32 (.int .u8))],[.box Y_wirereader_Reader (.pl Y_wirereader_Reader)]⟩,wirereader_Reader_Hash K0⟩
theorem ok111:ConOk Tryz.prog 111 wirereader_Reader_HashC:=mkOk (n:=111) (k:=140) (hs:=[(44,.con wirereader_Reader_ByteC)]) (A:=annL [([111],0,.tmpl ⟨(.ptr 0 [] :: dd 1 (.ptr 1 [] :: .ptr 2 [] :: dd 1 (.pl (.int .i64) :: dd 8 (.ptr 0 [] :: [])))),[.box Y_wirereader_Reader (.pl Y_wirereader_Reader),.box (.arr 32 (.int .u8)) (.pl (.arr 32 (.int .u8))),.box (.arr 32 (.int .u8)) (.pl (.arr 32 (.int .u8)))]⟩)]) ⟨ok44,trivial⟩ (by intro x; kernel_rfl)
noncomputable def step_readProofC:Con:=⟨⟨[.ptr 0 []],[.box Y_wirereader_Reader (.pl Y_wirereader_Reader)]⟩,⟨[.pl (.sl (.arr 32 (.int .u8))),.pl .bool],[.box Y_wirereader_Reader (.pl Y_wirereader_Reader)]⟩,step_readProof K0⟩
theorem ok68:ConOk Tryz.prog 68 step_readProofC:=mkOk (n:=68) (k:=140) (hs:=[(66,.con wirereader_Reader_Uint64C),(111,.con wirereader_Reader_HashC)]) (A:=annL [([68],0,.tmpl ⟨(.ptr 0 [] :: dd 4 (.whole 1 :: dd 4 (.pl (.int .u64) :: .pl (.int .u64) :: dd 8 (.ptr 0 [] :: [])))),[.box Y_wirereader_Reader (.pl Y_wirereader_Reader),.row (.arr 32 (.int .u8))]⟩)]) ⟨ok66,ok111,trivial⟩ (by intro x; kernel_rfl)
noncomputable def step_DecodeC:Con:=⟨⟨[.pl (.sl (.int .u8))],[]⟩,⟨[.pl Y_api_Step,.pl (.int .i64)],[]⟩,step_Decode K0⟩
theorem ok21:ConOk Tryz.prog 21 step_DecodeC:=mkOk (n:=21) (k:=220) (hs:=[(43,.con wirereader_NewC),(44,.con wirereader_Reader_ByteC),(45,.inl),(46,.con wirereader_Reader_DoneC),(64,.con tx_DecodeC),(65,.con wirereader_Reader_BytesC),(66,.con wirereader_Reader_Uint64C),(67,.con wirereader_Reader_Uint256C),(68,.con step_readProofC)]) (A:=fun _ _=>none) ⟨ok43,ok44,ok46,ok64,ok65,ok66,ok67,ok68,trivial⟩ (by intro x; kernel_rfl)
noncomputable def executor_Machine_ExecuteBytesC:Con:=⟨⟨[.ptr 0 [],.pl (.sl (.int .u8))],H_executor_Machine⟩,⟨[.pl Y_api_Receipt],H_executor_Machine⟩,executor_Machine_ExecuteBytes K0⟩
theorem ok7:ConOk Tryz.prog 7 executor_Machine_ExecuteBytesC:=mkOk (n:=7) (k:=140) (hs:=[(12,.con executor_Machine_ExecuteC),(21,.con step_DecodeC),(22,.con executor_Machine_countC)]) (A:=fun _ _=>none) ⟨ok12,ok21,ok22,trivial⟩ (by intro x; kernel_rfl)
noncomputable def slices_Clone___api_Account_api_Account_cC:Con:=⟨⟨[.pl (.sl Y_api_Account)],[]⟩,⟨[.whole 0],[.row Y_api_Account]⟩,slices_Clone___api_Account_api_Account_c K0⟩
theorem okc47:ConOk Tryz.prog 47 slices_Clone___api_Account_api_Account_cC:=mkOk (n:=47) (k:=60) (hs:=[]) (A:=fun _ _=>none) trivial (by intro x; exact Eq.trans (b:=slices_Clone___api_Account_api_Account_ K0 x) (by kernel_rfl) (slices_Clone___api_Account_api_Account_c_eq K0 x))
noncomputable def ledger_Ledger_AccountsC:Con:=⟨⟨[.bp Y_ledger_Ledger],[]⟩,⟨[.whole 0],[.row Y_api_Account]⟩,ledger_Ledger_Accounts K0⟩
theorem ok23:ConOk Tryz.prog 23 ledger_Ledger_AccountsC:=mkOk (n:=23) (k:=140) (hs:=[(47,.con slices_Clone___api_Account_api_Account_cC)]) (A:=fun _ _=>none) ⟨okc47,trivial⟩ (by intro x; kernel_rfl)
noncomputable def ledger_Ledger_VaultsC:Con:=⟨⟨[.bp Y_ledger_Ledger],[]⟩,⟨[.pl (.arr 4 u256)],[]⟩,ledger_Ledger_Vaults K0⟩
theorem ok24:ConOk Tryz.prog 24 ledger_Ledger_VaultsC:=mkOk (n:=24) (k:=140) (hs:=[]) (A:=fun _ _=>none) trivial (by intro x; kernel_rfl)
noncomputable def slices_Clone___api_Message_api_Message_cC:Con:=⟨⟨[.pl (.sl Y_api_Report)],[]⟩,⟨[.whole 0],[.row Y_api_Report]⟩,slices_Clone___api_Message_api_Message_c K0⟩
theorem okc48:ConOk Tryz.prog 48 slices_Clone___api_Message_api_Message_cC:=mkOk (n:=48) (k:=60) (hs:=[]) (A:=fun _ _=>none) trivial (by intro x; exact Eq.trans (b:=slices_Clone___api_Message_api_Message_ K0 x) (by kernel_rfl) (slices_Clone___api_Message_api_Message_c_eq K0 x))
noncomputable def outbox_Outbox_AllC:Con:=⟨⟨[.ptr 0 []],H_outbox_Outbox⟩,⟨[.whole 4],[.box Y_outbox_Outbox (.pair (.whole 2) (.pair (.ptr 1 []) (.pl .nil))),.box (.cons (.sl (.arr 32 (.int .u8))) .nil) (.pair (.whole 3) (.pl .nil)),.row Y_api_Report,.row (.arr 32 (.int .u8)),.row Y_api_Report]⟩,outbox_Outbox_All K0⟩
theorem ok25:ConOk Tryz.prog 25 outbox_Outbox_AllC:=mkOk (n:=25) (k:=140) (hs:=[(48,.con slices_Clone___api_Message_api_Message_cC)]) (A:=fun _ _=>none) ⟨okc48,trivial⟩ (by intro x; kernel_rfl)
noncomputable def slices_Clone___api_Payment_api_Payment_cC:Con:=⟨⟨[.pl (.sl Y_api_Payment)],[]⟩,⟨[.whole 0],[.row Y_api_Payment]⟩,slices_Clone___api_Payment_api_Payment_c K0⟩
theorem okc49:ConOk Tryz.prog 49 slices_Clone___api_Payment_api_Payment_cC:=mkOk (n:=49) (k:=60) (hs:=[]) (A:=fun _ _=>none) trivial (by intro x; exact Eq.trans (b:=slices_Clone___api_Payment_api_Payment_ K0 x) (by kernel_rfl) (slices_Clone___api_Payment_api_Payment_c_eq K0 x))
noncomputable def escrow_Escrow_L1BalancesC:Con:=⟨⟨[.bp Y_escrow_Escrow],[]⟩,⟨[.whole 0],[.row Y_api_Payment]⟩,escrow_Escrow_L1Balances K0⟩
theorem ok27:ConOk Tryz.prog 27 escrow_Escrow_L1BalancesC:=mkOk (n:=27) (k:=140) (hs:=[(49,.con slices_Clone___api_Payment_api_Payment_cC)]) (A:=fun _ _=>none) ⟨okc49,trivial⟩ (by intro x; kernel_rfl)
noncomputable def escrow_Escrow_SizeC:Con:=⟨⟨[.bp Y_escrow_Escrow],[]⟩,⟨[.pl (.int .i64)],[]⟩,escrow_Escrow_Size K0⟩
theorem ok50:ConOk Tryz.prog 50 escrow_Escrow_SizeC:=mkOk (n:=50) (k:=140) (hs:=[]) (A:=fun _ _=>none) trivial (by intro x; kernel_rfl)
noncomputable def escrow_Escrow_ClaimedC:Con:=⟨⟨[.bp Y_escrow_Escrow,.pl (.int .u64)],[]⟩,⟨[.pl .bool],[]⟩,escrow_Escrow_Claimed K0⟩
theorem ok29:ConOk Tryz.prog 29 escrow_Escrow_ClaimedC:=mkOk (n:=29) (k:=140) (hs:=[(50,.con escrow_Escrow_SizeC)]) (A:=fun _ _=>none) ⟨ok50,trivial⟩ (by intro x; kernel_rfl)
noncomputable def executor_Machine_StateC:Con:=⟨⟨[.ptr 0 []],H_executor_Machine⟩,⟨[.pair (.pl (.int .u64)) (.pair (.pl Y_api_Params) (.pair (.pl Y_api_Block) (.pair (.pl (.int .u64)) (.pair (.pair (.pl u256) (.pair (.pl (.int .u64)) (.pair (.pl (.int .u64)) (.pair (.pl (.int .u64)) (.pair (.pl Y_api_Int256) (.pair (.whole 11) (.pl .nil))))))) (.pair (.whole 12) (.pair (.pl (.arr 4 u256)) (.pair (.whole 13) (.pair (.whole 14) (.pair (.pl u256) (.pair (.whole 15) (.pl .nil)))))))))))],[.box Y_executor_Machine (.pair (.pl (.int .u64)) (.pair (.pl Y_api_Params) (.pair (.pl Y_api_Block) (.pair (.pl (.int .u64)) (.pair (.pl Y_api_Pricer) (.pair (.ptr 1 []) (.pair (.ptr 2 []) (.pair (.ptr 4 []) (.pl .nil))))))))),.box Y_ledger_Ledger (.pair (.whole 5) (.pl (.cons (.arr 4 u256) .nil))),.box Y_outbox_Outbox (.pair (.whole 6) (.pair (.ptr 3 []) (.pl .nil))),.box (.cons (.sl (.arr 32 (.int .u8))) .nil) (.pair (.whole 7) (.pl .nil)),.box Y_escrow_Escrow (.pair (.whole 8) (.pair (.whole 9) (.pair (.pl u256) (.pair (.whole 10) (.pl .nil))))),.row Y_api_Account,.row Y_api_Report,.row (.arr 32 (.int .u8)),.row (.arr 32 (.int .u8)),.row .bool,.row Y_api_Payment,.row Y_api_Poster,.row Y_api_Account,.row Y_api_Report,.row .bool,.row Y_api_Payment]⟩,executor_Machine_State K0⟩
theorem ok8:ConOk Tryz.prog 8 executor_Machine_StateC:=mkOk (n:=8) (k:=140) (hs:=[(23,.con ledger_Ledger_AccountsC),(24,.con ledger_Ledger_VaultsC),(25,.con outbox_Outbox_AllC),(26,.con escrow_Escrow_BalanceC),(27,.con escrow_Escrow_L1BalancesC),(28,.con slices_Clone___api_Poster_api_Poster_cC),(29,.con escrow_Escrow_ClaimedC)]) (A:=annL [([8],0,.tmpl ⟨(.ptr 0 [] :: dd 1 (.ptr 11 [] :: .ptr 17 [] :: dd 58 (.pl (.int .i64) :: .pl (.int .i64) :: dd 16 (.ptr 0 [] :: .ptr 1 [] :: .ptr 3 [] :: .ptr 5 [] :: .ptr 7 [] :: [])))),[.box Y_executor_Machine ((.pair (.pl (.int .u64)) ((.pair (.pl Y_api_Params) ((.pair (.pl Y_api_Block) ((.pair (.pl (.int .u64)) ((.pair (.pl Y_api_Pricer) ((.pair (.ptr 1 []) ((.pair (.ptr 3 []) ((.pair (.ptr 7 []) (.pl .nil))))))))))))))))),.box Y_ledger_Ledger ((.pair (.whole 2) (.pl (.cons (.arr 4 u256) .nil)))),.row Y_api_Account,.box Y_outbox_Outbox ((.pair (.whole 4) ((.pair (.ptr 5 []) (.pl .nil))))),.row Y_api_Report,.box (.cons (.sl (.arr 32 (.int .u8))) .nil) ((.pair (.whole 6) (.pl .nil))),.row (.arr 32 (.int .u8)),.box Y_escrow_Escrow ((.pair (.whole 8) ((.pair (.whole 9) ((.pair (.pl u256) ((.pair (.whole 10) (.pl .nil))))))))),.row (.arr 32 (.int .u8)),.row .bool,.row Y_api_Payment,.box Y_api_State ((.pair (.pl (.int .u64)) ((.pair (.pl Y_api_Params) ((.pair (.pl Y_api_Block) ((.pair (.pl (.int .u64)) ((.pair ((.pair (.pl u256) ((.pair (.pl (.int .u64)) ((.pair (.pl (.int .u64)) ((.pair (.pl (.int .u64)) ((.pair (.pl Y_api_Int256) ((.pair (.whole 12) (.pl .nil))))))))))))) ((.pair (.whole 13) ((.pair (.pl (.arr 4 u256)) ((.pair (.whole 14) ((.pair (.whole 15) ((.pair (.pl u256) ((.pair (.whole 16) (.pl .nil))))))))))))))))))))))),.row Y_api_Poster,.row Y_api_Account,.row Y_api_Report,.row .bool,.row Y_api_Payment,.box Y_api_State ((.pair (.pl (.int .u64)) ((.pair (.pl Y_api_Params) ((.pair (.pl Y_api_Block) ((.pair (.pl (.int .u64)) ((.pair ((.pair (.pl u256) ((.pair (.pl (.int .u64)) ((.pair (.pl (.int .u64)) ((.pair (.pl (.int .u64)) ((.pair (.pl Y_api_Int256) ((.pair (.whole 18) (.pl .nil))))))))))))) ((.pair (.whole 19) ((.pair (.pl (.arr 4 u256)) ((.pair (.whole 20) ((.pair (.whole 21) ((.pair (.pl u256) ((.pair (.whole 22) (.pl .nil))))))))))))))))))))))),.row Y_api_Poster,.row Y_api_Account,.row Y_api_Report,.row .bool,.row Y_api_Payment]⟩)]) ⟨ok23,ok24,ok25,ok26,ok27,okc28,ok29,trivial⟩ (by intro x; kernel_rfl)
noncomputable def pontagelaw28_awakeC:Con:=⟨⟨[],[]⟩,⟨[.pl .bool],[]⟩,pontagelaw28_awake K0⟩
theorem ok14:ConOk Tryz.prog 14 pontagelaw28_awakeC:=mkOk (n:=14) (k:=160) (hs:=[(6,.con executor_NewC),(7,.con executor_Machine_ExecuteBytesC),(8,.con executor_Machine_StateC),(12,.con executor_Machine_ExecuteC)]) (A:=fun _ _=>none) ⟨ok6,ok7,ok8,ok12,trivial⟩ (by intro x; kernel_rfl)
noncomputable def pontagelaw28_ExecutorNilC:Con:=⟨⟨[.pl Y_api_Step,.pl (.sl (.int .u8)),.pl (.int .u64)],[]⟩,⟨[.pl .bool],[]⟩,pontagelaw28_ExecutorNil K0⟩
theorem ok4:ConOk Tryz.prog 4 pontagelaw28_ExecutorNilC:=mkOk (n:=4) (k:=200) (hs:=[(7,.con executor_Machine_ExecuteBytesNC),(8,.con executor_Machine_StateNC),(9,.con pontagelaw0_EqualStateC),(10,.con executor_Machine_ClaimNC),(11,.con pontagelaw0_EqualReceiptC),(12,.con executor_Machine_ExecuteNC),(13,.con executor_Machine_StateHashNC),(14,.con pontagelaw28_awakeC)]) (A:=fun _ _=>none) ⟨ok100007,ok100008,ok9,ok100010,ok11,ok100012,ok100013,ok14,trivial⟩ (by intro x; kernel_rfl)
end Sym

/- Rules for what a printed function computes. -/
namespace Sym
open Go
end Sym

/- Natural numbers as ints; lists as rows. -/
namespace Sym
open Go
end Sym

/- The methods of a nil machine: the law. -/
namespace Sym
open Go
set_option maxRecDepth 100000
theorem execNil_law (s:S_api_Step) (b:List (I .u8)) (n:I .u64):pontagelaw28_ExecutorNil K0 ((s,(b,(n,()))),()) = some ((true,()),()):=by
  rw [K0_eq]
  kernel_rfl
end Sym
