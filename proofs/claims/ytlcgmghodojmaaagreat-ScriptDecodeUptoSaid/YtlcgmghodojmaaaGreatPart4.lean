/- The given functions as plain functions, as the printer told them. -/
import Derived.Test.YtlcgmghodojmaaaGreatProg
import Derived.Carry
import Derived.SizedLaws
import Derived.ChangeOld
import Derived.OpenShut
import Derived.Test.YtlcgmghodojmaaaGreatPart3
namespace Sym
open Go
abbrev S_pontageref22_Reader:Type:=(List (I .u8)) × ((I .i64) × (Bool × Unit))
abbrev S_A8_intu64:Type:=(I .u64) × ((I .u64) × ((I .u64) × ((I .u64) × U)))
abbrev S_ledger_Ledger:Type:=(List S_api_Account) × (S_A4_U × Unit)
abbrev S_escrow_Escrow:Type:=(List S_A32_intu8) × ((List Bool) × (U × ((List S_api_Payment) × Unit)))
abbrev O_ledger_Ledger:Type:=O_pontageref11_Ledger
abbrev O_outbox_Outbox:Type:=Unit × (Unit × Unit)
abbrev O_escrow_Escrow:Type:=Unit × (Unit × (U × (Unit × Unit)))
abbrev O_merkle_Tree:Type:=Unit × Unit
abbrev Y_wirereader_Reader:Ty:=.cons (.sl (.int .u8)) (.cons (.int .i64) (.cons .bool .nil))
abbrev Y_outbox_Outbox:Ty:=.cons (.sl Y_api_Report) (.cons .opq .nil)
abbrev Y_escrow_Escrow:Ty:=.cons (.sl (.arr 32 (.int .u8))) (.cons (.sl .bool) (.cons u256 (.cons (.sl Y_api_Payment) .nil)))
abbrev Y_executor_Machine:Ty:=.cons (.int .u64) (.cons Y_api_Params (.cons Y_api_Block (.cons (.int .u64) (.cons Y_api_Pricer (.cons .opq (.cons .opq (.cons .opq .nil)))))))
abbrev H_executor_Machine:List BSh:=[.box Y_executor_Machine (.pair (.pl (.int .u64)) (.pair (.pl Y_api_Params) (.pair (.pl Y_api_Block) (.pair (.pl (.int .u64)) (.pair (.pl Y_api_Pricer) (.pair (.ptr 1 []) (.pair (.ptr 2 []) (.pair (.ptr 4 []) (.pl .nil))))))))),.box Y_pontageref11_Ledger (.pair (.whole 5) (.pl (.cons (.arr 4 u256) .nil))),.box Y_outbox_Outbox (.pair (.whole 6) (.pair (.ptr 3 []) (.pl .nil))),.box (.cons (.sl (.arr 32 (.int .u8))) .nil) (.pair (.whole 7) (.pl .nil)),.box Y_escrow_Escrow (.pair (.whole 8) (.pair (.whole 9) (.pair (.pl u256) (.pair (.whole 10) (.pl .nil))))),.row Y_api_Account,.row Y_api_Report,.row (.arr 32 (.int .u8)),.row (.arr 32 (.int .u8)),.row .bool,.row Y_api_Payment]
abbrev H_escrow_Escrow:List BSh:=[.box Y_escrow_Escrow (.pair (.whole 1) (.pair (.whole 2) (.pair (.pl u256) (.pair (.whole 3) (.pl .nil))))),.row (.arr 32 (.int .u8)),.row .bool,.row Y_api_Payment]
abbrev H_outbox_Outbox:List BSh:=[.box Y_outbox_Outbox (.pair (.whole 2) (.pair (.ptr 1 []) (.pl .nil))),.box (.cons (.sl (.arr 32 (.int .u8))) .nil) (.pair (.whole 3) (.pl .nil)),.row Y_api_Report,.row (.arr 32 (.int .u8))]
abbrev H_ledger_Ledger:List BSh:=H_pontageref11_Ledger
abbrev H_merkle_Tree:List BSh:=[.box (.cons (.sl (.arr 32 (.int .u8))) .nil) (.pair (.whole 1) (.pl .nil)),.row (.arr 32 (.int .u8))]
noncomputable def pontagelaw29_tooLarge (K:Nat) (x:(⟨[.pl (.sl (.sl (.int .u8)))],[]⟩:Tm).D):Option (⟨[.pl .bool],[]⟩:Tm).D :=
 let a:(List (List (I .u8))):=x.1.1
 iter (none) (fun x0 =>
   brn (@I.ltb .i64 x0.1.2.2.1 (I.ofNat .i64 (@lenL (List (I .u8)) x0.1.1)))
    (brn (@inB .i64 x0.1.2.2.1 (@lenL (List (I .u8)) x0.1.1))
     (.again ((x0.1.1,((@I.add .i64 (@I.add .i64 x0.1.2.1 (I.ofNat .i64 (@lenL (I .u8) (@rdL (List (I .u8)) [] x0.1.1 (@I.nat .i64 x0.1.2.2.1))))) (I.of .i64 1)),((@I.add .i64 x0.1.2.2.1 (I.of .i64 1)),()))),()))
     (.done (none)))
    (.done (some (((@I.ltb .i64 (I.of .i64 3000) x0.1.2.1),()),()))))
 K ((a,((I.of .i64 0),((I.of .i64 0),()))),())
noncomputable def wirereader_New (K:Nat) (x:(⟨[.pl (.sl (.int .u8))],[]⟩:Tm).D):Option (⟨[.ptr 0 []],[.box Y_wirereader_Reader (.pl Y_wirereader_Reader)]⟩:Tm).D :=
 let a:(List (I .u8)):=x.1.1
 some ((),((a,((I.of .i64 0),(false,()))),()))
noncomputable def wirereader_Reader_Done (K:Nat) (x:(⟨[.bp Y_wirereader_Reader],[]⟩:Tm).D):Option (⟨[.pl .bool],[]⟩:Tm).D :=
 let a:S_pontageref22_Reader:=x.1.1
 brn (bnot a.2.2.1)
  (some (((@I.eqb .i64 a.2.1 (I.ofNat .i64 (@lenL (I .u8) a.1))),()),()))
  (some ((false,()),()))
noncomputable def wirereader_Reader_Bad (K:Nat) (x:(⟨[.bp Y_wirereader_Reader],[]⟩:Tm).D):Option (⟨[.pl .bool],[]⟩:Tm).D :=
 let a:S_pontageref22_Reader:=x.1.1
 some ((a.2.2.1,()),())
noncomputable def wire_readUint (K:Nat) (x:(⟨[.pl (.sl (.int .u8)),.pl (.int .i64),.pl (.int .i64)],[]⟩:Tm).D):Option (⟨[.pl u256,.pl (.int .i64),.pl (.int .i64)],[]⟩:Tm).D :=
 let a:(List (I .u8)):=x.1.1
 let b:(I .i64):=x.1.2.1
 let c:(I .i64):=x.1.2.2.1
 jn (fun (x0:(((List (I .u8)) × ((I .i64) × ((I .i64) × Unit))) × (U × Unit))) =>
   brn (@inB' .i64 x0.1.2.1 (@lenL (I .u8) x0.1.1))
    (brn (@I.eqb .i64 (I.ofNat .i64 (@lenL (I .u8) (@subL (I .u8) x0.1.1 (@I.nat .i64 x0.1.2.1) ((@lenL (I .u8) x0.1.1) - (@I.nat .i64 x0.1.2.1))))) (I.of .i64 0))
     (some ((Z_U,((I.of .i64 0),((I.of .i64 3),()))),()))
     (brn (@inB .i64 (I.of .i64 0) (@lenL (I .u8) (@subL (I .u8) x0.1.1 (@I.nat .i64 x0.1.2.1) ((@lenL (I .u8) x0.1.1) - (@I.nat .i64 x0.1.2.1)))))
      (brn (@inB' .i64 (I.of .i64 1) (@lenL (I .u8) (@subL (I .u8) x0.1.1 (@I.nat .i64 x0.1.2.1) ((@lenL (I .u8) x0.1.1) - (@I.nat .i64 x0.1.2.1)))))
       (jn (fun (x1:(((I .i64) × ((List (I .u8)) × ((I .i64) × Unit))) × (U × Unit))) =>
         iter (none) (fun x2 =>
           brn (@I.ltb .i64 x2.1.2.2.2.2.1 x2.1.2.2.2.1)
            (brn (@inB .i64 (@I.quo .i64 (@I.sub .i64 (@I.sub .i64 x2.1.2.2.1 (I.of .i64 1)) x2.1.2.2.2.2.1) (I.of .i64 8)) 4)
             (brn (@inB .i64 x2.1.2.2.2.2.1 (@lenL (I .u8) x2.1.2.1))
              (brn (@I.nn .i64 (@I.mul .i64 (I.of .i64 8) (@I.rem .i64 (@I.sub .i64 (@I.sub .i64 x2.1.2.2.1 (I.of .i64 1)) x2.1.2.2.2.2.1) (I.of .i64 8))))
               (brn (@inB .i64 (@I.quo .i64 (@I.sub .i64 (@I.sub .i64 x2.1.2.2.1 (I.of .i64 1)) x2.1.2.2.2.2.1) (I.of .i64 8)) 4)
                (.again ((x2.1.1,(x2.1.2.1,(x2.1.2.2.1,(x2.1.2.2.2.1,((@I.add .i64 x2.1.2.2.2.2.1 (I.of .i64 1)),()))))),(x2.2.1,((@Arr.upd (I .u64) 4 x2.2.2.1 (@I.nat .i64 (@I.quo .i64 (@I.sub .i64 (@I.sub .i64 x2.1.2.2.1 (I.of .i64 1)) x2.1.2.2.2.2.1) (I.of .i64 8))) (@I.or .u64 (@Arr.sel (I .u64) (I.of .u64 0) 4 x2.2.2.1 (@I.nat .i64 (@I.quo .i64 (@I.sub .i64 (@I.sub .i64 x2.1.2.2.1 (I.of .i64 1)) x2.1.2.2.2.2.1) (I.of .i64 8)))) (@I.shl .u64 .i64 (I.conv (k:=.u8) .u64 (@rdL (I .u8) (I.of .u8 0) x2.1.2.1 (@I.nat .i64 x2.1.2.2.2.2.1))) (@I.mul .i64 (I.of .i64 8) (@I.rem .i64 (@I.sub .i64 (@I.sub .i64 x2.1.2.2.1 (I.of .i64 1)) x2.1.2.2.2.2.1) (I.of .i64 8)))))),()))))
                (.done (none)))
               (.done (none)))
              (.done (none)))
             (.done (none)))
            (.done (some ((x2.2.2.1,((@I.add .i64 (@I.add .i64 x2.1.1 (I.of .i64 1)) x2.1.2.2.1),((I.of .i64 0),()))),()))))
         K ((x1.1.1,(x1.1.2.1,(x1.1.2.2.1,(x1.1.2.2.1,((I.of .i64 0),()))))),(x1.2.1,(Z_U,())))) fun j1 =>
       brn (@I.ltb .i64 x0.1.2.2.1 (I.conv (k:=.u8) .i64 (@rdL (I .u8) (I.of .u8 0) (@subL (I .u8) x0.1.1 (@I.nat .i64 x0.1.2.1) ((@lenL (I .u8) x0.1.1) - (@I.nat .i64 x0.1.2.1))) 0)))
        (some ((Z_U,((I.of .i64 0),((I.of .i64 3),()))),()))
        (brn (@I.ltb .i64 (I.ofNat .i64 (@lenL (I .u8) (@subL (I .u8) (@subL (I .u8) x0.1.1 (@I.nat .i64 x0.1.2.1) ((@lenL (I .u8) x0.1.1) - (@I.nat .i64 x0.1.2.1))) 1 ((@lenL (I .u8) (@subL (I .u8) x0.1.1 (@I.nat .i64 x0.1.2.1) ((@lenL (I .u8) x0.1.1) - (@I.nat .i64 x0.1.2.1)))) - 1)))) (I.conv (k:=.u8) .i64 (@rdL (I .u8) (I.of .u8 0) (@subL (I .u8) x0.1.1 (@I.nat .i64 x0.1.2.1) ((@lenL (I .u8) x0.1.1) - (@I.nat .i64 x0.1.2.1))) 0)))
         (some ((Z_U,((I.of .i64 0),((I.of .i64 3),()))),()))
         (brn (@I.ltb .i64 (I.of .i64 0) (I.conv (k:=.u8) .i64 (@rdL (I .u8) (I.of .u8 0) (@subL (I .u8) x0.1.1 (@I.nat .i64 x0.1.2.1) ((@lenL (I .u8) x0.1.1) - (@I.nat .i64 x0.1.2.1))) 0)))
          (brn (@inB .i64 (I.of .i64 0) (@lenL (I .u8) (@subL (I .u8) (@subL (I .u8) x0.1.1 (@I.nat .i64 x0.1.2.1) ((@lenL (I .u8) x0.1.1) - (@I.nat .i64 x0.1.2.1))) 1 ((@lenL (I .u8) (@subL (I .u8) x0.1.1 (@I.nat .i64 x0.1.2.1) ((@lenL (I .u8) x0.1.1) - (@I.nat .i64 x0.1.2.1)))) - 1))))
           (brn (@I.eqb .u8 (@rdL (I .u8) (I.of .u8 0) (@subL (I .u8) (@subL (I .u8) x0.1.1 (@I.nat .i64 x0.1.2.1) ((@lenL (I .u8) x0.1.1) - (@I.nat .i64 x0.1.2.1))) 1 ((@lenL (I .u8) (@subL (I .u8) x0.1.1 (@I.nat .i64 x0.1.2.1) ((@lenL (I .u8) x0.1.1) - (@I.nat .i64 x0.1.2.1)))) - 1)) 0) (I.of .u8 0))
            (some ((Z_U,((I.of .i64 0),((I.of .i64 3),()))),()))
            (j1 ((x0.1.2.1,((@subL (I .u8) (@subL (I .u8) x0.1.1 (@I.nat .i64 x0.1.2.1) ((@lenL (I .u8) x0.1.1) - (@I.nat .i64 x0.1.2.1))) 1 ((@lenL (I .u8) (@subL (I .u8) x0.1.1 (@I.nat .i64 x0.1.2.1) ((@lenL (I .u8) x0.1.1) - (@I.nat .i64 x0.1.2.1)))) - 1)),((I.conv (k:=.u8) .i64 (@rdL (I .u8) (I.of .u8 0) (@subL (I .u8) x0.1.1 (@I.nat .i64 x0.1.2.1) ((@lenL (I .u8) x0.1.1) - (@I.nat .i64 x0.1.2.1))) 0)),()))),(x0.2.1,()))))
           (none))
          (j1 ((x0.1.2.1,((@subL (I .u8) (@subL (I .u8) x0.1.1 (@I.nat .i64 x0.1.2.1) ((@lenL (I .u8) x0.1.1) - (@I.nat .i64 x0.1.2.1))) 1 ((@lenL (I .u8) (@subL (I .u8) x0.1.1 (@I.nat .i64 x0.1.2.1) ((@lenL (I .u8) x0.1.1) - (@I.nat .i64 x0.1.2.1)))) - 1)),((I.conv (k:=.u8) .i64 (@rdL (I .u8) (I.of .u8 0) (@subL (I .u8) x0.1.1 (@I.nat .i64 x0.1.2.1) ((@lenL (I .u8) x0.1.1) - (@I.nat .i64 x0.1.2.1))) 0)),()))),(x0.2.1,()))))))
       (none))
      (none)))
    (none)) fun j0 =>
 brn (@I.ltb .i64 b (I.of .i64 0))
  (some ((Z_U,((I.of .i64 0),((I.of .i64 2),()))),()))
  (brn (@I.ltb .i64 (I.ofNat .i64 (@lenL (I .u8) a)) b)
   (some ((Z_U,((I.of .i64 0),((I.of .i64 2),()))),()))
   (j0 ((a,(b,(c,()))),(Z_U,()))))
noncomputable def wire_ReadUint64 (K:Nat) (x:(⟨[.pl (.sl (.int .u8)),.pl (.int .i64)],[]⟩:Tm).D):Option (⟨[.pl (.int .u64),.pl (.int .i64),.pl (.int .i64)],[]⟩:Tm).D :=
 let a:(List (I .u8)):=x.1.1
 let b:(I .i64):=x.1.2.1
 optF (none) (wire_readUint K ((a,(b,((I.of .i64 8),()))),())) fun y0 =>
 some ((y0.1.1.1,(y0.1.2.1,(y0.1.2.2.1,()))),())
noncomputable def slices_Clone___byte_byte_ (K:Nat) (x:(⟨[.pl (.sl (.int .u8))],[]⟩:Tm).D):Option (⟨[.pl (.sl (.int .u8))],[]⟩:Tm).D :=
 let a:(List (I .u8)):=x.1.1
 brn (emptyN (@lenL (I .u8) a))
  (both (none)
   (some (([],()),()))
   (brn (fitsLen (@lenL (I .u8) (@appL (I .u8) [] a)))
    (some (((@appL (I .u8) [] a),()),()))
    (none)))
  (brn (fitsLen (@lenL (I .u8) (@appL (I .u8) [] a)))
   (some (((@appL (I .u8) [] a),()),()))
   (none))
noncomputable def slices_Clone___byte_byte_c (K:Nat) (x:(⟨[.pl (.sl (.int .u8))],[]⟩:Tm).D):Option (⟨[.pl (.sl (.int .u8))],[]⟩:Tm).D:=brn (fitsLen (lenL x.1.1)) (some ((x.1.1,()),())) none
theorem slices_Clone___byte_byte_c_eq (K:Nat):∀ x,slices_Clone___byte_byte_ K x = slices_Clone___byte_byte_c K x
  | ⟨⟨[],⟨⟩⟩,⟨⟩⟩=>both_eq rfl
  | ⟨⟨_ :: _,⟨⟩⟩,⟨⟩⟩=>rfl
noncomputable def wire_ReadBytes (K:Nat) (x:(⟨[.pl (.sl (.int .u8)),.pl (.int .i64)],[]⟩:Tm).D):Option (⟨[.pl (.sl (.int .u8)),.pl (.int .i64),.pl (.int .i64)],[]⟩:Tm).D :=
 let a:(List (I .u8)):=x.1.1
 let b:(I .i64):=x.1.2.1
 optF (none) (wire_ReadUint64 K ((a,(b,())),())) fun y0 =>
 brn (@I.neb .i64 y0.1.2.2.1 (I.of .i64 0))
  (some (([],((I.of .i64 0),(y0.1.2.2.1,()))),()))
  (brn (@I.ltb .u64 (I.conv (k:=.i64) .u64 (@I.sub .i64 (I.ofNat .i64 (@lenL (I .u8) a)) y0.1.2.1)) y0.1.1)
   (some (([],((I.of .i64 0),((I.of .i64 3),()))),()))
   (brn (@inB' .i64 y0.1.2.1 (@I.nat .i64 (@I.add .i64 y0.1.2.1 (I.conv (k:=.u64) .i64 y0.1.1))))
    (brn (@inB' .i64 (@I.add .i64 y0.1.2.1 (I.conv (k:=.u64) .i64 y0.1.1)) (@lenL (I .u8) a))
     (optF (none) (slices_Clone___byte_byte_c K (((@subL (I .u8) a (@I.nat .i64 y0.1.2.1) ((@I.nat .i64 (@I.add .i64 y0.1.2.1 (I.conv (k:=.u64) .i64 y0.1.1))) - (@I.nat .i64 y0.1.2.1))),()),())) fun y1 =>
     some ((y1.1.1,((@I.add .i64 y0.1.2.1 (I.conv (k:=.u64) .i64 y0.1.1)),((I.of .i64 0),()))),()))
     (none))
    (none)))
noncomputable def wirereader_Reader_advance (K:Nat) (x:(⟨[.ptr 0 [],.pl (.int .i64),.pl (.int .i64)],[.box Y_wirereader_Reader (.pl Y_wirereader_Reader)]⟩:Tm).D):Option (⟨[.pl .bool],[.box Y_wirereader_Reader (.pl Y_wirereader_Reader)]⟩:Tm).D :=
 let a:(I .i64):=x.1.1
 let b:(I .i64):=x.1.2.1
 let h0:S_pontageref22_Reader:=x.2.1
 brn h0.2.2.1
  (some ((false,()),((h0.1,(h0.2.1,(true,h0.2.2.2))),())))
  (brn (@I.neb .i64 b (I.of .i64 0))
   (some ((false,()),((h0.1,(h0.2.1,(true,h0.2.2.2))),())))
   (some ((true,()),((h0.1,(a,h0.2.2)),()))))
noncomputable def wirereader_Reader_Bytes (K:Nat) (x:(⟨[.ptr 0 []],[.box Y_wirereader_Reader (.pl Y_wirereader_Reader)]⟩:Tm).D):Option (⟨[.pl (.sl (.int .u8))],[.box Y_wirereader_Reader (.pl Y_wirereader_Reader)]⟩:Tm).D :=
 let h0:S_pontageref22_Reader:=x.2.1
 optF (none) (wire_ReadBytes K ((h0.1,(h0.2.1,())),())) fun y0 =>
 optF (none) (wirereader_Reader_advance K ((y0.1.2.1,(y0.1.2.2.1,())),(h0,()))) fun y1 =>
 brn (bnot y1.1.1)
  (some (([],()),(y1.2.1,())))
  (some ((y0.1.1,()),(y1.2.1,())))
noncomputable def script_Decode (K:Nat) (x:(⟨[.pl (.sl (.int .u8))],[]⟩:Tm).D):Option (⟨[.pl (.sl (.sl (.int .u8))),.pl (.int .i64)],[]⟩:Tm).D :=
 let a:(List (I .u8)):=x.1.1
 optF (none) (wirereader_New K ((a,()),())) fun y0 =>
 jn (fun (x1:(Unit × ((List (List (I .u8))) × (S_pontageref22_Reader × Unit)))) =>
   optF (none) (wirereader_Reader_Bad K ((x1.2.2.1,()),())) fun y2 =>
   brn y2.1.1
    (some (([],((I.of .i64 3),())),()))
    (some ((x1.2.1,((I.of .i64 0),())),()))) fun j1 =>
 iter (none) (fun (x2:(Unit × ((List (List (I .u8))) × (S_pontageref22_Reader × Unit)))) =>
   optF (.done (none)) (wirereader_Reader_Done K ((x2.2.2.1,()),())) fun y3 =>
   brn (bnot y3.1.1)
    (optF (.done (none)) (wirereader_Reader_Bad K ((x2.2.2.1,()),())) fun y4 =>
    brn (bnot y4.1.1)
     (optF (.done (none)) (wirereader_Reader_Bytes K ((),(x2.2.2.1,()))) fun y5 =>
     brn (fitsLen (@lenL (List (I .u8)) (@appL (List (I .u8)) x2.2.1 (y5.1.1 :: []))))
      (.again ((),((@appL (List (I .u8)) x2.2.1 (y5.1.1 :: [])),(y5.2.1,()))))
      (.done (none)))
     (.done (j1 ((),(x2.2.1,(x2.2.2.1,()))))))
    (.done (j1 ((),(x2.2.1,(x2.2.2.1,()))))))
 K ((),([],(y0.2.1,())))
noncomputable def backlog_Drain (K:Nat) (x:(⟨[.pl (.int .u64),.pl (.int .u64),.pl (.int .u64)],[]⟩:Tm).D):Option (⟨[.pl (.int .u64)],[]⟩:Tm).D :=
 let a:(I .u64):=x.1.1
 let b:(I .u64):=x.1.2.1
 let c:(I .u64):=x.1.2.2.1
 optF (none) (math_bits_Mul64 K ((b,(c,())),())) fun y0 =>
 brn (@I.neb .u64 y0.1.1 (I.of .u64 0))
  (some (((I.of .u64 0),()),()))
  (brn (@I.ltb .u64 a y0.1.2.1)
   (some (((I.of .u64 0),()),()))
   (some (((@I.sub .u64 a y0.1.2.1),()),())))
noncomputable def backlog_Excess (K:Nat) (x:(⟨[.pl (.int .u64),.pl (.int .u64),.pl (.int .u64)],[]⟩:Tm).D):Option (⟨[.pl (.int .u64)],[]⟩:Tm).D :=
 let a:(I .u64):=x.1.1
 let b:(I .u64):=x.1.2.1
 let c:(I .u64):=x.1.2.2.1
 optF (none) (backlog_Drain K ((a,(b,(c,()))),())) fun y0 =>
 some ((y0.1.1,()),())
noncomputable def math_bits_LeadingZeros64 (K:Nat) (x:(⟨[.pl (.int .u64)],[]⟩:Tm).D):Option (⟨[.pl (.int .i64)],[]⟩:Tm).D :=
 let a:(I .u64):=x.1.1
 optF (none) (math_bits_Len64 K ((a,()),())) fun y0 =>
 some (((@I.sub .i64 (I.of .i64 64) y0.1.1),()),())
noncomputable def math_bits_Div64 (K:Nat) (x:(⟨[.pl (.int .u64),.pl (.int .u64),.pl (.int .u64)],[]⟩:Tm).D):Option (⟨[.pl (.int .u64),.pl (.int .u64)],[]⟩:Tm).D :=
 let a:(I .u64):=x.1.1
 let b:(I .u64):=x.1.2.1
 let c:(I .u64):=x.1.2.2.1
 jn (fun (x0:(((I .u64) × ((I .u64) × ((I .u64) × Unit))) × Unit)) =>
   jn (fun (x1:(((I .u64) × ((I .u64) × ((I .u64) × Unit))) × Unit)) =>
     brn (@I.eqb .u64 x1.1.1 (I.of .u64 0))
      (brn (@I.nz .u64 x1.1.2.2.1)
       (brn (@I.nz .u64 x1.1.2.2.1)
        (some (((@I.quo .u64 x1.1.2.1 x1.1.2.2.1),((@I.rem .u64 x1.1.2.1 x1.1.2.2.1),())),()))
        (none))
       (none))
      (optF (none) (math_bits_LeadingZeros64 K ((x1.1.2.2.1,()),())) fun y2 =>
      brn (@I.nn .u64 (I.conv (k:=.i64) .u64 y2.1.1))
       (brn (@I.nn .u64 (I.conv (k:=.i64) .u64 y2.1.1))
        (brn (@I.nn .u64 (@I.sub .u64 (I.of .u64 64) (I.conv (k:=.i64) .u64 y2.1.1)))
         (brn (@I.nn .u64 (I.conv (k:=.i64) .u64 y2.1.1))
          (brn (@I.nz .u64 (@I.shr .u64 .u64 (@I.shl .u64 .u64 x1.1.2.2.1 (I.conv (k:=.i64) .u64 y2.1.1)) (I.of .u64 32)))
           (jn (fun (x3:(S_A8_intu64 × Unit)) =>
             brn (@I.nz .u64 x3.1.2.2.1)
              (jn (fun (x4:(((I .u64) × ((I .u64) × U)) × Unit)) =>
                brn (@I.nn .u64 x4.1.2.1)
                 (some (((@I.add .u64 (@I.mul .u64 x4.1.2.2.2.1 (I.of .u64 4294967296)) x4.1.2.2.2.2.2.1),((@I.shr .u64 .u64 (@I.sub .u64 (@I.add .u64 (@I.mul .u64 x4.1.2.2.2.2.1 (I.of .u64 4294967296)) x4.1.2.2.1) (@I.mul .u64 x4.1.2.2.2.2.2.1 x4.1.1)) x4.1.2.1),())),()))
                 (none)) fun j4 =>
              iter (none) (fun x5 =>
                jn (fun (x6:(((I .u64) × S_A8_intu64) × Unit)) =>
                  brn (@I.leb .u64 (I.of .u64 4294967296) (@I.add .u64 x6.1.2.2.2.2.2.2.1 x6.1.2.2.1))
                   (.done (j4 ((x6.1.1,(x6.1.2.1,(x6.1.2.2.2.2.1,(x6.1.2.2.2.2.2.1,(x6.1.2.2.2.2.2.2.2.1,((@I.sub .u64 x6.1.2.2.2.2.2.2.2.2.1 (I.of .u64 1)),())))))),())))
                   (.again ((x6.1.1,(x6.1.2.1,(x6.1.2.2.1,(x6.1.2.2.2.1,(x6.1.2.2.2.2.1,(x6.1.2.2.2.2.2.1,((@I.add .u64 x6.1.2.2.2.2.2.2.1 x6.1.2.2.1),(x6.1.2.2.2.2.2.2.2.1,((@I.sub .u64 x6.1.2.2.2.2.2.2.2.2.1 (I.of .u64 1)),()))))))))),()))) fun j6 =>
                brn (@I.leb .u64 (I.of .u64 4294967296) x5.1.2.2.2.2.2.2.2.2.1)
                 (j6 ((x5.1.1,(x5.1.2.1,(x5.1.2.2.1,(x5.1.2.2.2.1,(x5.1.2.2.2.2.1,(x5.1.2.2.2.2.2.1,(x5.1.2.2.2.2.2.2.1,(x5.1.2.2.2.2.2.2.2.1,(x5.1.2.2.2.2.2.2.2.2.1,()))))))))),()))
                 (brn (@I.ltb .u64 (@I.add .u64 (@I.mul .u64 (I.of .u64 4294967296) x5.1.2.2.2.2.2.2.1) x5.1.2.2.2.2.1) (@I.mul .u64 x5.1.2.2.2.2.2.2.2.2.1 x5.1.2.2.2.1))
                  (j6 ((x5.1.1,(x5.1.2.1,(x5.1.2.2.1,(x5.1.2.2.2.1,(x5.1.2.2.2.2.1,(x5.1.2.2.2.2.2.1,(x5.1.2.2.2.2.2.2.1,(x5.1.2.2.2.2.2.2.2.1,(x5.1.2.2.2.2.2.2.2.2.1,()))))))))),()))
                  (.done (j4 ((x5.1.1,(x5.1.2.1,(x5.1.2.2.2.2.1,(x5.1.2.2.2.2.2.1,(x5.1.2.2.2.2.2.2.2.1,(x5.1.2.2.2.2.2.2.2.2.1,())))))),())))))
              K ((x3.1.1,(x3.1.2.1,(x3.1.2.2.1,(x3.1.2.2.2.1,(x3.1.2.2.2.2.2.2.1,(x3.1.2.2.2.2.2.2.2.1,((@I.sub .u64 (@I.sub .u64 (@I.add .u64 (@I.mul .u64 x3.1.2.2.2.2.1 (I.of .u64 4294967296)) x3.1.2.2.2.2.2.1) (@I.mul .u64 x3.1.2.2.2.2.2.2.2.1 x3.1.1)) (@I.mul .u64 (@I.quo .u64 (@I.sub .u64 (@I.add .u64 (@I.mul .u64 x3.1.2.2.2.2.1 (I.of .u64 4294967296)) x3.1.2.2.2.2.2.1) (@I.mul .u64 x3.1.2.2.2.2.2.2.2.1 x3.1.1)) x3.1.2.2.1) x3.1.2.2.1)),((@I.sub .u64 (@I.add .u64 (@I.mul .u64 x3.1.2.2.2.2.1 (I.of .u64 4294967296)) x3.1.2.2.2.2.2.1) (@I.mul .u64 x3.1.2.2.2.2.2.2.2.1 x3.1.1)),((@I.quo .u64 (@I.sub .u64 (@I.add .u64 (@I.mul .u64 x3.1.2.2.2.2.1 (I.of .u64 4294967296)) x3.1.2.2.2.2.2.1) (@I.mul .u64 x3.1.2.2.2.2.2.2.2.1 x3.1.1)) x3.1.2.2.1),()))))))))),()))
              (none)) fun j3 =>
           iter (none) (fun x4 =>
             jn (fun (x5:(((I .u64) × S_A8_intu64) × Unit)) =>
               brn (@I.leb .u64 (I.of .u64 4294967296) (@I.add .u64 x5.1.2.2.2.2.2.2.2.2.1 x5.1.2.2.1))
                (.done (j3 ((x5.1.1,(x5.1.2.1,(x5.1.2.2.1,(x5.1.2.2.2.1,(x5.1.2.2.2.2.1,(x5.1.2.2.2.2.2.1,(x5.1.2.2.2.2.2.2.1,((@I.sub .u64 x5.1.2.2.2.2.2.2.2.1 (I.of .u64 1)),())))))))),())))
                (.again ((x5.1.1,(x5.1.2.1,(x5.1.2.2.1,(x5.1.2.2.2.1,(x5.1.2.2.2.2.1,(x5.1.2.2.2.2.2.1,(x5.1.2.2.2.2.2.2.1,((@I.sub .u64 x5.1.2.2.2.2.2.2.2.1 (I.of .u64 1)),((@I.add .u64 x5.1.2.2.2.2.2.2.2.2.1 x5.1.2.2.1),()))))))))),()))) fun j5 =>
             brn (@I.leb .u64 (I.of .u64 4294967296) x4.1.2.2.2.2.2.2.2.1)
              (j5 ((x4.1.1,(x4.1.2.1,(x4.1.2.2.1,(x4.1.2.2.2.1,(x4.1.2.2.2.2.1,(x4.1.2.2.2.2.2.1,(x4.1.2.2.2.2.2.2.1,(x4.1.2.2.2.2.2.2.2.1,(x4.1.2.2.2.2.2.2.2.2.1,()))))))))),()))
              (brn (@I.ltb .u64 (@I.add .u64 (@I.mul .u64 (I.of .u64 4294967296) x4.1.2.2.2.2.2.2.2.2.1) x4.1.2.2.2.2.2.1) (@I.mul .u64 x4.1.2.2.2.2.2.2.2.1 x4.1.2.2.2.1))
               (j5 ((x4.1.1,(x4.1.2.1,(x4.1.2.2.1,(x4.1.2.2.2.1,(x4.1.2.2.2.2.1,(x4.1.2.2.2.2.2.1,(x4.1.2.2.2.2.2.2.1,(x4.1.2.2.2.2.2.2.2.1,(x4.1.2.2.2.2.2.2.2.2.1,()))))))))),()))
               (.done (j3 ((x4.1.1,(x4.1.2.1,(x4.1.2.2.1,(x4.1.2.2.2.1,(x4.1.2.2.2.2.1,(x4.1.2.2.2.2.2.1,(x4.1.2.2.2.2.2.2.1,(x4.1.2.2.2.2.2.2.2.1,())))))))),())))))
           K (((@I.shl .u64 .u64 x1.1.2.2.1 (I.conv (k:=.i64) .u64 y2.1.1)),((I.conv (k:=.i64) .u64 y2.1.1),((@I.shr .u64 .u64 (@I.shl .u64 .u64 x1.1.2.2.1 (I.conv (k:=.i64) .u64 y2.1.1)) (I.of .u64 32)),((@I.and .u64 (@I.shl .u64 .u64 x1.1.2.2.1 (I.conv (k:=.i64) .u64 y2.1.1)) (I.of .u64 4294967295)),((@I.or .u64 (@I.shl .u64 .u64 x1.1.1 (I.conv (k:=.i64) .u64 y2.1.1)) (@I.shr .u64 .u64 x1.1.2.1 (@I.sub .u64 (I.of .u64 64) (I.conv (k:=.i64) .u64 y2.1.1)))),((@I.shr .u64 .u64 (@I.shl .u64 .u64 x1.1.2.1 (I.conv (k:=.i64) .u64 y2.1.1)) (I.of .u64 32)),((@I.and .u64 (@I.shl .u64 .u64 x1.1.2.1 (I.conv (k:=.i64) .u64 y2.1.1)) (I.of .u64 4294967295)),((@I.quo .u64 (@I.or .u64 (@I.shl .u64 .u64 x1.1.1 (I.conv (k:=.i64) .u64 y2.1.1)) (@I.shr .u64 .u64 x1.1.2.1 (@I.sub .u64 (I.of .u64 64) (I.conv (k:=.i64) .u64 y2.1.1)))) (@I.shr .u64 .u64 (@I.shl .u64 .u64 x1.1.2.2.1 (I.conv (k:=.i64) .u64 y2.1.1)) (I.of .u64 32))),((@I.sub .u64 (@I.or .u64 (@I.shl .u64 .u64 x1.1.1 (I.conv (k:=.i64) .u64 y2.1.1)) (@I.shr .u64 .u64 x1.1.2.1 (@I.sub .u64 (I.of .u64 64) (I.conv (k:=.i64) .u64 y2.1.1)))) (@I.mul .u64 (@I.quo .u64 (@I.or .u64 (@I.shl .u64 .u64 x1.1.1 (I.conv (k:=.i64) .u64 y2.1.1)) (@I.shr .u64 .u64 x1.1.2.1 (@I.sub .u64 (I.of .u64 64) (I.conv (k:=.i64) .u64 y2.1.1)))) (@I.shr .u64 .u64 (@I.shl .u64 .u64 x1.1.2.2.1 (I.conv (k:=.i64) .u64 y2.1.1)) (I.of .u64 32))) (@I.shr .u64 .u64 (@I.shl .u64 .u64 x1.1.2.2.1 (I.conv (k:=.i64) .u64 y2.1.1)) (I.of .u64 32)))),()))))))))),()))
           (none))
          (none))
         (none))
        (none))
       (none))) fun j1 =>
   brn (@I.leb .u64 x0.1.2.2.1 x0.1.1)
    (none)
    (j1 ((x0.1.1,(x0.1.2.1,(x0.1.2.2.1,()))),()))) fun j0 =>
 brn (@I.eqb .u64 c (I.of .u64 0))
  (none)
  (j0 ((a,(b,(c,()))),()))
noncomputable def basefee_Exponent (K:Nat) (x:(⟨[.pl (.int .u64),.pl Y_api_Params],[]⟩:Tm).D):Option (⟨[.pl (.int .u64),.pl (.int .i64)],[]⟩:Tm).D :=
 let a:(I .u64):=x.1.1
 let b:S_api_Params:=x.1.2.1
 optF (none) (params_Valid K ((b,()),())) fun y0 =>
 brn (bnot y0.1.1)
  (some (((I.of .u64 0),((I.of .i64 15),())),()))
  (optF (none) (backlog_Excess K ((a,(b.1,(b.2.1,()))),())) fun y1 =>
  optF (none) (math_bits_Mul64 K ((y1.1.1,((I.of .u64 10000),())),())) fun y2 =>
  brn (@I.leb .u64 (@I.mul .u64 b.2.2.1 b.1) y2.1.1)
   (some (((I.of .u64 200000),((I.of .i64 0),())),()))
   (optF (none) (math_bits_Div64 K ((y2.1.1,(y2.1.2.1,((@I.mul .u64 b.2.2.1 b.1),()))),())) fun y3 =>
   some (((@I.mn .u64 y3.1.1 (I.of .u64 200000)),((I.of .i64 0),())),())))
noncomputable def bips_Exp (K:Nat) (x:(⟨[.pl (.int .u64),.pl (.int .i64)],[]⟩:Tm).D):Option (⟨[.pl (.int .u64),.pl (.int .i64)],[]⟩:Tm).D :=
 let a:(I .u64):=x.1.1
 let b:(I .i64):=x.1.2.1
 jn (fun (x0:(((I .u64) × ((I .i64) × Unit)) × Unit)) =>
   iter (none) (fun x1 =>
     brn (@I.leb .i64 (I.of .i64 1) x1.1.2.2.1)
      (brn (@I.nz .u64 (@I.mul .u64 (I.conv (k:=.i64) .u64 x1.1.2.2.1) (I.of .u64 10000)))
       (.again ((x1.1.1,((@I.add .u64 (I.of .u64 10000) (@I.quo .u64 (@I.mul .u64 x1.1.2.1 x1.1.1) (@I.mul .u64 (I.conv (k:=.i64) .u64 x1.1.2.2.1) (I.of .u64 10000)))),((@I.sub .i64 x1.1.2.2.1 (I.of .i64 1)),()))),()))
       (.done (none)))
      (.done (some ((x1.1.2.1,((I.of .i64 0),())),()))))
   K ((x0.1.1,((I.of .u64 10000),(x0.1.2.1,()))),())) fun j0 =>
 brn (@I.ltb .u64 (I.of .u64 200000) a)
  (some (((I.of .u64 0),((I.of .i64 2),())),()))
  (brn (@I.ltb .i64 b (I.of .i64 1))
   (some (((I.of .u64 0),((I.of .i64 2),())),()))
   (brn (@I.ltb .i64 (I.of .i64 20) b)
    (some (((I.of .u64 0),((I.of .i64 2),())),()))
    (j0 ((a,(b,())),()))))
noncomputable def bips_ScaleExp (K:Nat) (x:(⟨[.pl u256,.pl (.int .u64),.pl (.int .i64)],[]⟩:Tm).D):Option (⟨[.pl u256,.pl (.int .i64)],[]⟩:Tm).D :=
 let a:U:=x.1.1
 let b:(I .u64):=x.1.2.1
 let c:(I .i64):=x.1.2.2.1
 optF (none) (bips_Exp K ((b,(c,())),())) fun y0 =>
 brn (@I.neb .i64 y0.1.2.1 (I.of .i64 0))
  (some ((Z_U,(y0.1.2.1,())),()))
  (optF (none) (bips_Scale K ((a,(y0.1.1,())),())) fun y1 =>
  some ((y1.1.1,(y1.1.2.1,())),()))
noncomputable def basefee_Fee (K:Nat) (x:(⟨[.pl (.int .u64),.pl Y_api_Params],[]⟩:Tm).D):Option (⟨[.pl u256,.pl (.int .i64)],[]⟩:Tm).D :=
 let a:(I .u64):=x.1.1
 let b:S_api_Params:=x.1.2.1
 optF (none) (basefee_Exponent K ((a,(b,())),())) fun y0 =>
 brn (@I.neb .i64 y0.1.2.1 (I.of .i64 0))
  (some ((Z_U,(y0.1.2.1,())),()))
  (optF (none) (bips_ScaleExp K ((b.2.2.2.1,(y0.1.1,((I.of .i64 10),()))),())) fun y1 =>
  some ((y1.1.1,(y1.1.2.1,())),()))
noncomputable def block_Genesis (K:Nat) (x:(⟨[.pl Y_api_Params],[]⟩:Tm).D):Option (⟨[.pl Y_api_Block,.pl (.int .i64)],[]⟩:Tm).D :=
 let a:S_api_Params:=x.1.1
 optF (none) (basefee_Fee K (((I.of .u64 0),(a,())),())) fun y0 =>
 brn (@I.neb .i64 y0.1.2.1 (I.of .i64 0))
  (some ((Z_S_api_Block,(y0.1.2.1,())),()))
  (some ((((I.of .u64 1),((I.of .u64 0),((I.of .u64 0),(y0.1.1,())))),((I.of .i64 0),())),()))
noncomputable def ledger_New (K:Nat) (x:(⟨[],[]⟩:Tm).D):Option (⟨[.ptr 0 []],H_ledger_Ledger⟩:Tm).D :=
 some ((),(((),(Z_S_A4_U,())),([],())))
noncomputable def merkle_New (K:Nat) (x:(⟨[],[]⟩:Tm).D):Option (⟨[.ptr 0 []],H_merkle_Tree⟩:Tm).D :=
 some ((),(((),()),([],())))
noncomputable def outbox_New (K:Nat) (x:(⟨[],[]⟩:Tm).D):Option (⟨[.ptr 0 []],H_outbox_Outbox⟩:Tm).D :=
 optF (none) (merkle_New K ((),())) fun y0 =>
 some ((),(((),((),())),(y0.2.1,([],(y0.2.2.1,())))))
noncomputable def escrow_New (K:Nat) (x:(⟨[],[]⟩:Tm).D):Option (⟨[.ptr 0 []],H_escrow_Escrow⟩:Tm).D :=
 some ((),(((),((),(Z_U,((),())))),([],([],([],())))))
noncomputable def executor_New (K:Nat) (x:(⟨[],[]⟩:Tm).D):Option (⟨[.ptr 0 []],H_executor_Machine⟩:Tm).D :=
 optF (none) (params_Genesis K ((),())) fun y0 =>
 optF (none) (block_Genesis K ((y0.1.1,()),())) fun y1 =>
 optF (none) (pricer_Genesis K ((),())) fun y2 =>
 optF (none) (ledger_New K ((),())) fun y3 =>
 optF (none) (outbox_New K ((),())) fun y4 =>
 optF (none) (escrow_New K ((),())) fun y5 =>
 some ((),(((I.of .u64 0),(y0.1.1,(y1.1.1,((I.of .u64 0),(y2.1.1,((),((),((),())))))))),(y3.2.1,(y4.2.1,(y4.2.2.1,(y5.2.1,(y3.2.2.1,(y4.2.2.2.1,(y4.2.2.2.2.1,(y5.2.2.1,(y5.2.2.2.1,(y5.2.2.2.2.1,()))))))))))))
noncomputable def slices_Clone___api_Account_api_Account_ (K:Nat) (x:(⟨[.pl (.sl Y_api_Account)],[]⟩:Tm).D):Option (⟨[.whole 0],[.row Y_api_Account]⟩:Tm).D :=
 let a:(List S_api_Account):=x.1.1
 brn (emptyN (@lenL S_api_Account a))
  (both (none)
   (some ((),([],())))
   (brn (fitsLen (@lenL S_api_Account (@appL S_api_Account [] a)))
    (some ((),((@appL S_api_Account [] a),())))
    (none)))
  (brn (fitsLen (@lenL S_api_Account (@appL S_api_Account [] a)))
   (some ((),((@appL S_api_Account [] a),())))
   (none))
noncomputable def slices_Clone___api_Account_api_Account_c (K:Nat) (x:(⟨[.pl (.sl Y_api_Account)],[]⟩:Tm).D):Option (⟨[.whole 0],[.row Y_api_Account]⟩:Tm).D:=brn (fitsLen (lenL x.1.1)) (some ((),(x.1.1,()))) none
theorem slices_Clone___api_Account_api_Account_c_eq (K:Nat):∀ x,slices_Clone___api_Account_api_Account_ K x = slices_Clone___api_Account_api_Account_c K x
  | ⟨⟨[],⟨⟩⟩,⟨⟩⟩=>both_eq rfl
  | ⟨⟨_ :: _,⟨⟩⟩,⟨⟩⟩=>rfl
noncomputable def ledger_Ledger_Accounts (K:Nat) (x:(⟨[.bp Y_pontageref11_Ledger],[]⟩:Tm).D):Option (⟨[.whole 0],[.row Y_api_Account]⟩:Tm).D :=
 let a:S_ledger_Ledger:=x.1.1
 optF (none) (slices_Clone___api_Account_api_Account_c K ((a.1,()),())) fun y0 =>
 some ((),(y0.2.1,()))
noncomputable def ledger_Ledger_Vaults (K:Nat) (x:(⟨[.bp Y_pontageref11_Ledger],[]⟩:Tm).D):Option (⟨[.pl (.arr 4 u256)],[]⟩:Tm).D :=
 let a:S_ledger_Ledger:=x.1.1
 some ((a.2.1,()),())
noncomputable def slices_Clone___api_Message_api_Message_ (K:Nat) (x:(⟨[.pl (.sl Y_api_Report)],[]⟩:Tm).D):Option (⟨[.whole 0],[.row Y_api_Report]⟩:Tm).D :=
 let a:(List S_api_Message):=x.1.1
 brn (emptyN (@lenL S_api_Message a))
  (both (none)
   (some ((),([],())))
   (brn (fitsLen (@lenL S_api_Message (@appL S_api_Message [] a)))
    (some ((),((@appL S_api_Message [] a),())))
    (none)))
  (brn (fitsLen (@lenL S_api_Message (@appL S_api_Message [] a)))
   (some ((),((@appL S_api_Message [] a),())))
   (none))
noncomputable def slices_Clone___api_Message_api_Message_c (K:Nat) (x:(⟨[.pl (.sl Y_api_Report)],[]⟩:Tm).D):Option (⟨[.whole 0],[.row Y_api_Report]⟩:Tm).D:=brn (fitsLen (lenL x.1.1)) (some ((),(x.1.1,()))) none
theorem slices_Clone___api_Message_api_Message_c_eq (K:Nat):∀ x,slices_Clone___api_Message_api_Message_ K x = slices_Clone___api_Message_api_Message_c K x
  | ⟨⟨[],⟨⟩⟩,⟨⟩⟩=>both_eq rfl
  | ⟨⟨_ :: _,⟨⟩⟩,⟨⟩⟩=>rfl
noncomputable def outbox_Outbox_All (K:Nat) (x:(⟨[.ptr 0 []],H_outbox_Outbox⟩:Tm).D):Option (⟨[.whole 4],[.box Y_outbox_Outbox (.pair (.whole 2) (.pair (.ptr 1 []) (.pl .nil))),.box (.cons (.sl (.arr 32 (.int .u8))) .nil) (.pair (.whole 3) (.pl .nil)),.row Y_api_Report,.row (.arr 32 (.int .u8)),.row Y_api_Report]⟩:Tm).D :=
 let h0:O_outbox_Outbox:=x.2.1
 let h1:O_merkle_Tree:=x.2.2.1
 let h2:(List S_api_Message):=x.2.2.2.1
 let h3:(List S_A32_intu8):=x.2.2.2.2.1
 optF (none) (slices_Clone___api_Message_api_Message_c K ((h2,()),())) fun y0 =>
 some ((),(h0,(h1,(h2,(h3,(y0.2.1,()))))))
noncomputable def escrow_Escrow_Balance (K:Nat) (x:(⟨[.bp Y_escrow_Escrow],[]⟩:Tm).D):Option (⟨[.pl u256],[]⟩:Tm).D :=
 let a:S_escrow_Escrow:=x.1.1
 some ((a.2.2.1,()),())
noncomputable def slices_Clone___api_Payment_api_Payment_ (K:Nat) (x:(⟨[.pl (.sl Y_api_Payment)],[]⟩:Tm).D):Option (⟨[.whole 0],[.row Y_api_Payment]⟩:Tm).D :=
 let a:(List S_api_Payment):=x.1.1
 brn (emptyN (@lenL S_api_Payment a))
  (both (none)
   (some ((),([],())))
   (brn (fitsLen (@lenL S_api_Payment (@appL S_api_Payment [] a)))
    (some ((),((@appL S_api_Payment [] a),())))
    (none)))
  (brn (fitsLen (@lenL S_api_Payment (@appL S_api_Payment [] a)))
   (some ((),((@appL S_api_Payment [] a),())))
   (none))
noncomputable def slices_Clone___api_Payment_api_Payment_c (K:Nat) (x:(⟨[.pl (.sl Y_api_Payment)],[]⟩:Tm).D):Option (⟨[.whole 0],[.row Y_api_Payment]⟩:Tm).D:=brn (fitsLen (lenL x.1.1)) (some ((),(x.1.1,()))) none
theorem slices_Clone___api_Payment_api_Payment_c_eq (K:Nat):∀ x,slices_Clone___api_Payment_api_Payment_ K x = slices_Clone___api_Payment_api_Payment_c K x
  | ⟨⟨[],⟨⟩⟩,⟨⟩⟩=>both_eq rfl
  | ⟨⟨_ :: _,⟨⟩⟩,⟨⟩⟩=>rfl
noncomputable def escrow_Escrow_L1Balances (K:Nat) (x:(⟨[.bp Y_escrow_Escrow],[]⟩:Tm).D):Option (⟨[.whole 0],[.row Y_api_Payment]⟩:Tm).D :=
 let a:S_escrow_Escrow:=x.1.1
 optF (none) (slices_Clone___api_Payment_api_Payment_c K ((a.2.2.2.1,()),())) fun y0 =>
 some ((),(y0.2.1,()))
noncomputable def slices_Clone___api_Poster_api_Poster_c (K:Nat) (x:(⟨[.pl (.sl Y_api_Poster)],[]⟩:Tm).D):Option (⟨[.whole 0],[.row Y_api_Poster]⟩:Tm).D:=brn (fitsLen (lenL x.1.1)) (some ((),(x.1.1,()))) none
theorem slices_Clone___api_Poster_api_Poster_c_eq (K:Nat):∀ x,slices_Clone___api_Poster_api_Poster_ K x = slices_Clone___api_Poster_api_Poster_c K x
  | ⟨⟨[],⟨⟩⟩,⟨⟩⟩=>both_eq rfl
  | ⟨⟨_ :: _,⟨⟩⟩,⟨⟩⟩=>rfl
noncomputable def escrow_Escrow_Size (K:Nat) (x:(⟨[.bp Y_escrow_Escrow],[]⟩:Tm).D):Option (⟨[.pl (.int .i64)],[]⟩:Tm).D :=
 let a:S_escrow_Escrow:=x.1.1
 some (((I.ofNat .i64 (@lenL S_A32_intu8 a.1)),()),())
noncomputable def escrow_Escrow_Claimed (K:Nat) (x:(⟨[.bp Y_escrow_Escrow,.pl (.int .u64)],[]⟩:Tm).D):Option (⟨[.pl .bool],[]⟩:Tm).D :=
 let a:S_escrow_Escrow:=x.1.1
 let b:(I .u64):=x.1.2.1
 optF (none) (escrow_Escrow_Size K ((a,()),())) fun y0 =>
 brn (@I.ltb .u64 b (I.conv (k:=.i64) .u64 y0.1.1))
  (brn (@inB .u64 b (@lenL Bool a.2.1))
   (some (((@rdL Bool false a.2.1 (@I.nat .u64 b)),()),()))
   (none))
  (some ((false,()),()))
noncomputable def executor_Machine_State (K:Nat) (x:(⟨[.ptr 0 []],H_executor_Machine⟩:Tm).D):Option (⟨[.pair (.pl (.int .u64)) (.pair (.pl Y_api_Params) (.pair (.pl Y_api_Block) (.pair (.pl (.int .u64)) (.pair (.pair (.pl u256) (.pair (.pl (.int .u64)) (.pair (.pl (.int .u64)) (.pair (.pl (.int .u64)) (.pair (.pl Y_api_Int256) (.pair (.whole 11) (.pl .nil))))))) (.pair (.whole 12) (.pair (.pl (.arr 4 u256)) (.pair (.whole 13) (.pair (.whole 14) (.pair (.pl u256) (.pair (.whole 15) (.pl .nil)))))))))))],[.box Y_executor_Machine (.pair (.pl (.int .u64)) (.pair (.pl Y_api_Params) (.pair (.pl Y_api_Block) (.pair (.pl (.int .u64)) (.pair (.pl Y_api_Pricer) (.pair (.ptr 1 []) (.pair (.ptr 2 []) (.pair (.ptr 4 []) (.pl .nil))))))))),.box Y_pontageref11_Ledger (.pair (.whole 5) (.pl (.cons (.arr 4 u256) .nil))),.box Y_outbox_Outbox (.pair (.whole 6) (.pair (.ptr 3 []) (.pl .nil))),.box (.cons (.sl (.arr 32 (.int .u8))) .nil) (.pair (.whole 7) (.pl .nil)),.box Y_escrow_Escrow (.pair (.whole 8) (.pair (.whole 9) (.pair (.pl u256) (.pair (.whole 10) (.pl .nil))))),.row Y_api_Account,.row Y_api_Report,.row (.arr 32 (.int .u8)),.row (.arr 32 (.int .u8)),.row .bool,.row Y_api_Payment,.row Y_api_Poster,.row Y_api_Account,.row Y_api_Report,.row .bool,.row Y_api_Payment]⟩:Tm).D :=
 let h0:O_pontageref28_Machine:=x.2.1
 let h1:O_ledger_Ledger:=x.2.2.1
 let h2:O_outbox_Outbox:=x.2.2.2.1
 let h3:O_merkle_Tree:=x.2.2.2.2.1
 let h4:O_escrow_Escrow:=x.2.2.2.2.2.1
 let h5:(List S_api_Account):=x.2.2.2.2.2.2.1
 let h6:(List S_api_Message):=x.2.2.2.2.2.2.2.1
 let h7:(List S_A32_intu8):=x.2.2.2.2.2.2.2.2.1
 let h8:(List S_A32_intu8):=x.2.2.2.2.2.2.2.2.2.1
 let h9:(List Bool):=x.2.2.2.2.2.2.2.2.2.2.1
 let h10:(List S_api_Payment):=x.2.2.2.2.2.2.2.2.2.2.2.1
 optF (none) (ledger_Ledger_Accounts K (((h5,h1.2),()),())) fun y0 =>
 optF (none) (ledger_Ledger_Vaults K (((h5,h1.2),()),())) fun y1 =>
 optF (none) (outbox_Outbox_All K ((),(((),((),h2.2.2)),(((),h3.2),(h6,(h7,())))))) fun y2 =>
 optF (none) (escrow_Escrow_Balance K (((h8,(h9,(h4.2.2.1,(h10,h4.2.2.2.2)))),()),())) fun y3 =>
 optF (none) (escrow_Escrow_L1Balances K (((h8,(h9,(h4.2.2.1,(h10,h4.2.2.2.2)))),()),())) fun y4 =>
 optF (none) (slices_Clone___api_Poster_api_Poster_c K ((h0.2.2.2.2.1.2.2.2.2.2.1,()),())) fun y5 =>
 iter (none) (fun (x6:(((I .i64) × ((I .i64) × Unit)) × (O_pontageref28_Machine × (O_ledger_Ledger × ((List S_api_Account) × (O_outbox_Outbox × ((List S_api_Message) × (O_merkle_Tree × ((List S_A32_intu8) × (O_escrow_Escrow × ((List S_A32_intu8) × ((List Bool) × ((List S_api_Payment) × (((I .u64) × (S_api_Params × (S_api_Block × ((I .u64) × ((U × ((I .u64) × ((I .u64) × ((I .u64) × (S_api_Int256 × O_merkle_Tree))))) × (Unit × (S_A4_U × O_escrow_Escrow))))))) × ((List S_api_Poster) × ((List S_api_Account) × ((List S_api_Message) × ((List Bool) × ((List S_api_Payment) × (((I .u64) × (S_api_Params × (S_api_Block × ((I .u64) × ((U × ((I .u64) × ((I .u64) × ((I .u64) × (S_api_Int256 × O_merkle_Tree))))) × (Unit × (S_A4_U × O_escrow_Escrow))))))) × ((List S_api_Poster) × ((List S_api_Account) × ((List S_api_Message) × ((List Bool) × ((List S_api_Payment) × Unit))))))))))))))))))))))))) =>
   brn (@I.ltb .i64 x6.1.2.1 x6.1.1)
    (optF (.done (none)) (escrow_Escrow_Claimed K (((x6.2.2.2.2.2.2.2.2.2.1,(x6.2.2.2.2.2.2.2.2.2.2.1,(x6.2.2.2.2.2.2.2.2.1.2.2.1,(x6.2.2.2.2.2.2.2.2.2.2.2.1,x6.2.2.2.2.2.2.2.2.1.2.2.2.2)))),((I.conv (k:=.i64) .u64 x6.1.2.1),())),())) fun y7 =>
    brn (fitsLen (@lenL Bool (@appL Bool x6.2.2.2.2.2.2.2.2.2.2.2.2.2.2.2.2.2.2.2.2.2.2.1 (y7.1.1 :: []))))
     (.again ((x6.1.1,((@I.add .i64 x6.1.2.1 (I.of .i64 1)),())),((x6.2.1.1,(x6.2.1.2.1,(x6.2.1.2.2.1,(x6.2.1.2.2.2.1,(x6.2.1.2.2.2.2.1,((),((),((),x6.2.1.2.2.2.2.2.2.2.2)))))))),(((),x6.2.2.1.2),(x6.2.2.2.1,(((),((),x6.2.2.2.2.1.2.2)),(x6.2.2.2.2.2.1,(((),x6.2.2.2.2.2.2.1.2),(x6.2.2.2.2.2.2.2.1,(((),((),(x6.2.2.2.2.2.2.2.2.1.2.2.1,((),x6.2.2.2.2.2.2.2.2.1.2.2.2.2)))),(x6.2.2.2.2.2.2.2.2.2.1,(x6.2.2.2.2.2.2.2.2.2.2.1,(x6.2.2.2.2.2.2.2.2.2.2.2.1,((x6.2.2.2.2.2.2.2.2.2.2.2.2.1.1,(x6.2.2.2.2.2.2.2.2.2.2.2.2.1.2.1,(x6.2.2.2.2.2.2.2.2.2.2.2.2.1.2.2.1,(x6.2.2.2.2.2.2.2.2.2.2.2.2.1.2.2.2.1,((x6.2.2.2.2.2.2.2.2.2.2.2.2.1.2.2.2.2.1.1,(x6.2.2.2.2.2.2.2.2.2.2.2.2.1.2.2.2.2.1.2.1,(x6.2.2.2.2.2.2.2.2.2.2.2.2.1.2.2.2.2.1.2.2.1,(x6.2.2.2.2.2.2.2.2.2.2.2.2.1.2.2.2.2.1.2.2.2.1,(x6.2.2.2.2.2.2.2.2.2.2.2.2.1.2.2.2.2.1.2.2.2.2.1,((),x6.2.2.2.2.2.2.2.2.2.2.2.2.1.2.2.2.2.1.2.2.2.2.2.2)))))),((),(x6.2.2.2.2.2.2.2.2.2.2.2.2.1.2.2.2.2.2.2.1,((),((),(x6.2.2.2.2.2.2.2.2.2.2.2.2.1.2.2.2.2.2.2.2.2.2.1,((),x6.2.2.2.2.2.2.2.2.2.2.2.2.1.2.2.2.2.2.2.2.2.2.2.2))))))))))),(x6.2.2.2.2.2.2.2.2.2.2.2.2.2.1,(x6.2.2.2.2.2.2.2.2.2.2.2.2.2.2.1,(x6.2.2.2.2.2.2.2.2.2.2.2.2.2.2.2.1,(x6.2.2.2.2.2.2.2.2.2.2.2.2.2.2.2.2.1,(x6.2.2.2.2.2.2.2.2.2.2.2.2.2.2.2.2.2.1,((x6.2.2.2.2.2.2.2.2.2.2.2.2.2.2.2.2.2.2.1.1,(x6.2.2.2.2.2.2.2.2.2.2.2.2.2.2.2.2.2.2.1.2.1,(x6.2.2.2.2.2.2.2.2.2.2.2.2.2.2.2.2.2.2.1.2.2.1,(x6.2.2.2.2.2.2.2.2.2.2.2.2.2.2.2.2.2.2.1.2.2.2.1,((x6.2.2.2.2.2.2.2.2.2.2.2.2.2.2.2.2.2.2.1.2.2.2.2.1.1,(x6.2.2.2.2.2.2.2.2.2.2.2.2.2.2.2.2.2.2.1.2.2.2.2.1.2.1,(x6.2.2.2.2.2.2.2.2.2.2.2.2.2.2.2.2.2.2.1.2.2.2.2.1.2.2.1,(x6.2.2.2.2.2.2.2.2.2.2.2.2.2.2.2.2.2.2.1.2.2.2.2.1.2.2.2.1,(x6.2.2.2.2.2.2.2.2.2.2.2.2.2.2.2.2.2.2.1.2.2.2.2.1.2.2.2.2.1,((),x6.2.2.2.2.2.2.2.2.2.2.2.2.2.2.2.2.2.2.1.2.2.2.2.1.2.2.2.2.2.2)))))),((),(x6.2.2.2.2.2.2.2.2.2.2.2.2.2.2.2.2.2.2.1.2.2.2.2.2.2.1,((),((),(x6.2.2.2.2.2.2.2.2.2.2.2.2.2.2.2.2.2.2.1.2.2.2.2.2.2.2.2.2.1,((),x6.2.2.2.2.2.2.2.2.2.2.2.2.2.2.2.2.2.2.1.2.2.2.2.2.2.2.2.2.2.2))))))))))),(x6.2.2.2.2.2.2.2.2.2.2.2.2.2.2.2.2.2.2.2.1,(x6.2.2.2.2.2.2.2.2.2.2.2.2.2.2.2.2.2.2.2.2.1,(x6.2.2.2.2.2.2.2.2.2.2.2.2.2.2.2.2.2.2.2.2.2.1,((@appL Bool x6.2.2.2.2.2.2.2.2.2.2.2.2.2.2.2.2.2.2.2.2.2.2.1 (y7.1.1 :: [])),(x6.2.2.2.2.2.2.2.2.2.2.2.2.2.2.2.2.2.2.2.2.2.2.2.1,())))))))))))))))))))))))))
     (.done (none)))
    (.done (some (((x6.2.2.2.2.2.2.2.2.2.2.2.2.2.2.2.2.2.2.1.1,(x6.2.2.2.2.2.2.2.2.2.2.2.2.2.2.2.2.2.2.1.2.1,(x6.2.2.2.2.2.2.2.2.2.2.2.2.2.2.2.2.2.2.1.2.2.1,(x6.2.2.2.2.2.2.2.2.2.2.2.2.2.2.2.2.2.2.1.2.2.2.1,((x6.2.2.2.2.2.2.2.2.2.2.2.2.2.2.2.2.2.2.1.2.2.2.2.1.1,(x6.2.2.2.2.2.2.2.2.2.2.2.2.2.2.2.2.2.2.1.2.2.2.2.1.2.1,(x6.2.2.2.2.2.2.2.2.2.2.2.2.2.2.2.2.2.2.1.2.2.2.2.1.2.2.1,(x6.2.2.2.2.2.2.2.2.2.2.2.2.2.2.2.2.2.2.1.2.2.2.2.1.2.2.2.1,(x6.2.2.2.2.2.2.2.2.2.2.2.2.2.2.2.2.2.2.1.2.2.2.2.1.2.2.2.2.1,((),x6.2.2.2.2.2.2.2.2.2.2.2.2.2.2.2.2.2.2.1.2.2.2.2.1.2.2.2.2.2.2)))))),((),(x6.2.2.2.2.2.2.2.2.2.2.2.2.2.2.2.2.2.2.1.2.2.2.2.2.2.1,((),((),(x6.2.2.2.2.2.2.2.2.2.2.2.2.2.2.2.2.2.2.1.2.2.2.2.2.2.2.2.2.1,((),x6.2.2.2.2.2.2.2.2.2.2.2.2.2.2.2.2.2.2.1.2.2.2.2.2.2.2.2.2.2.2))))))))))),()),((x6.2.1.1,(x6.2.1.2.1,(x6.2.1.2.2.1,(x6.2.1.2.2.2.1,(x6.2.1.2.2.2.2.1,((),((),((),x6.2.1.2.2.2.2.2.2.2.2)))))))),(((),x6.2.2.1.2),(((),((),x6.2.2.2.2.1.2.2)),(((),x6.2.2.2.2.2.2.1.2),(((),((),(x6.2.2.2.2.2.2.2.2.1.2.2.1,((),x6.2.2.2.2.2.2.2.2.1.2.2.2.2)))),(x6.2.2.2.1,(x6.2.2.2.2.2.1,(x6.2.2.2.2.2.2.2.1,(x6.2.2.2.2.2.2.2.2.2.1,(x6.2.2.2.2.2.2.2.2.2.2.1,(x6.2.2.2.2.2.2.2.2.2.2.2.1,(x6.2.2.2.2.2.2.2.2.2.2.2.2.2.2.2.2.2.2.2.1,(x6.2.2.2.2.2.2.2.2.2.2.2.2.2.2.2.2.2.2.2.2.1,(x6.2.2.2.2.2.2.2.2.2.2.2.2.2.2.2.2.2.2.2.2.2.1,(x6.2.2.2.2.2.2.2.2.2.2.2.2.2.2.2.2.2.2.2.2.2.2.1,(x6.2.2.2.2.2.2.2.2.2.2.2.2.2.2.2.2.2.2.2.2.2.2.2.1,()))))))))))))))))))))
 K (((I.ofNat .i64 (@lenL S_api_Message y2.2.2.2.2.2.1)),((I.of .i64 0),())),((h0.1,(h0.2.1,(h0.2.2.1,(h0.2.2.2.1,(h0.2.2.2.2.1,((),((),((),h0.2.2.2.2.2.2.2.2)))))))),(((),h1.2),(h5,(((),((),y2.2.1.2.2)),(y2.2.2.2.1,(((),y2.2.2.1.2),(y2.2.2.2.2.1,(((),((),(h4.2.2.1,((),h4.2.2.2.2)))),(h8,(h9,(h10,(((I.of .u64 0),(Z_S_api_Params,(Z_S_api_Block,((I.of .u64 0),((Z_U,((I.of .u64 0),((I.of .u64 0),((I.of .u64 0),(Z_S_api_Int256,((),())))))),((),(Z_S_A4_U,((),((),(Z_U,((),()))))))))))),([],([],([],([],([],((h0.1,(h0.2.1,(h0.2.2.1,(h0.2.2.2.1,((h0.2.2.2.2.1.1,(h0.2.2.2.2.1.2.1,(h0.2.2.2.2.1.2.2.1,(h0.2.2.2.2.1.2.2.2.1,(h0.2.2.2.2.1.2.2.2.2.1,((),h0.2.2.2.2.1.2.2.2.2.2.2)))))),((),(y1.1.1,((),((),(y3.1.1,((),()))))))))))),(y5.2.1,(y0.2.1,(y2.2.2.2.2.2.1,([],(y4.2.1,()))))))))))))))))))))))))
noncomputable def pontagelaw29_awake (K:Nat) (x:(⟨[],[]⟩:Tm).D):Option (⟨[.pl .bool],[]⟩:Tm).D :=
 optF (none) (script_Decode K ((KS_01,()),())) fun y0 =>
 optF (none) (executor_New K ((),())) fun y1 =>
 optF (none) (executor_Machine_State K ((),y1.2)) fun y2 =>
 brn (@I.eqb .i64 y0.1.2.1 (I.of .i64 3))
  (brn (@I.eqb .u64 y2.1.1.1 (I.of .u64 0))
   (some (((@I.eqb .u64 y2.1.1.2.2.1.1 (I.of .u64 1)),()),()))
   (some ((false,()),())))
  (some ((false,()),()))
noncomputable def pontageref6_AppendUint256W (K:Nat) (x:(⟨[.pl (.sl (.int .u8)),.pl u256],[]⟩:Tm).D):Option (⟨[.whole 0],[.row (.int .u8)]⟩:Tm).D :=
 let a:(List (I .u8)):=x.1.1
 let b:U:=x.1.2.1
 optF (none) (pontageref6_digits K ((b,()),())) fun y0 =>
 brn (fitsLen (@lenL (I .u8) (@appL (I .u8) [] a)))
  (brn (fitsLen (@lenL (I .u8) (@appL (I .u8) (@appL (I .u8) [] a) ((I.conv (k:=.i64) .u8 (I.ofNat .i64 (@lenL (I .u8) y0.1.1))) :: []))))
   (brn (fitsLen (@lenL (I .u8) (@appL (I .u8) (@appL (I .u8) (@appL (I .u8) [] a) ((I.conv (k:=.i64) .u8 (I.ofNat .i64 (@lenL (I .u8) y0.1.1))) :: [])) y0.1.1)))
    (some ((),((@appL (I .u8) (@appL (I .u8) (@appL (I .u8) [] a) ((I.conv (k:=.i64) .u8 (I.ofNat .i64 (@lenL (I .u8) y0.1.1))) :: [])) y0.1.1),())))
    (none))
   (none))
  (none)
noncomputable def pontageref6_AppendUint64W (K:Nat) (x:(⟨[.pl (.sl (.int .u8)),.pl (.int .u64)],[]⟩:Tm).D):Option (⟨[.whole 0],[.row (.int .u8)]⟩:Tm).D :=
 let a:(List (I .u8)):=x.1.1
 let b:(I .u64):=x.1.2.1
 optF (none) (pontageref6_AppendUint256W K ((a,((b,((I.of .u64 0),((I.of .u64 0),((I.of .u64 0),())))),())),())) fun y0 =>
 some ((),(y0.2.1,()))
noncomputable def pontageref6_AppendBytes (K:Nat) (x:(⟨[.pl (.sl (.int .u8)),.pl (.sl (.int .u8))],[]⟩:Tm).D):Option (⟨[.whole 0],[.row (.int .u8)]⟩:Tm).D :=
 let a:(List (I .u8)):=x.1.1
 let b:(List (I .u8)):=x.1.2.1
 optF (none) (pontageref6_AppendUint64W K ((a,((I.conv (k:=.i64) .u64 (I.ofNat .i64 (@lenL (I .u8) b))),())),())) fun y0 =>
 brn (fitsLen (@lenL (I .u8) (@appL (I .u8) y0.2.1 b)))
  (some ((),((@appL (I .u8) y0.2.1 b),())))
  (none)
noncomputable def pontagelaw29_encode (K:Nat) (x:(⟨[.pl (.sl (.sl (.int .u8)))],[]⟩:Tm).D):Option (⟨[.whole 0],[.row (.int .u8)]⟩:Tm).D :=
 let a:(List (List (I .u8))):=x.1.1
 iter (none) (fun (x0:(((List (List (I .u8))) × ((I .i64) × Unit)) × ((List (I .u8)) × Unit))) =>
   brn (@I.ltb .i64 x0.1.2.1 (I.ofNat .i64 (@lenL (List (I .u8)) x0.1.1)))
    (brn (@inB .i64 x0.1.2.1 (@lenL (List (I .u8)) x0.1.1))
     (optF (.done (none)) (pontageref6_AppendBytes K ((x0.2.1,((@rdL (List (I .u8)) [] x0.1.1 (@I.nat .i64 x0.1.2.1)),())),())) fun y1 =>
     .again ((x0.1.1,((@I.add .i64 x0.1.2.1 (I.of .i64 1)),())),(y1.2.1,())))
     (.done (none)))
    (.done (some ((),(x0.2.1,())))))
 K ((a,((I.of .i64 0),())),([],()))
noncomputable def pontagelaw0_EqualBytes (K:Nat) (x:(⟨[.pl (.sl (.int .u8)),.pl (.sl (.int .u8))],[]⟩:Tm).D):Option (⟨[.pl .bool],[]⟩:Tm).D :=
 let a:(List (I .u8)):=x.1.1
 let b:(List (I .u8)):=x.1.2.1
 some (((strEq a b),()),())
noncomputable def pontageref6_take (K:Nat) (x:(⟨[.pl (.sl (.int .u8)),.pl (.int .i64),.pl (.int .i64)],[]⟩:Tm).D):Option (⟨[.pl u256,.pl (.int .i64),.pl (.int .i64)],[]⟩:Tm).D :=
 let a:(List (I .u8)):=x.1.1
 let b:(I .i64):=x.1.2.1
 let c:(I .i64):=x.1.2.2.1
 jn (fun (x0:(((List (I .u8)) × ((I .i64) × ((I .i64) × Unit))) × (U × (U × Unit)))) =>
   jn (fun (x1:(((List (I .u8)) × ((I .i64) × Unit)) × (U × (U × Unit)))) =>
     brn (@inB .i64 x1.1.2.1 (@lenL (I .u8) x1.1.1))
      (iter (none) (fun x2 =>
        brn (@I.ltb .i64 x2.1.2.2.2.1 x2.1.2.2.1)
         (brn (@inB .i64 (@I.quo .i64 (@I.sub .i64 (@I.sub .i64 x2.1.2.2.1 (I.of .i64 1)) x2.1.2.2.2.1) (I.of .i64 8)) 4)
          (brn (@inB .i64 (@I.add .i64 (@I.add .i64 x2.1.2.1 (I.of .i64 1)) x2.1.2.2.2.1) (@lenL (I .u8) x2.1.1))
           (brn (@I.nn .u64 (I.conv (k:=.i64) .u64 (@I.mul .i64 (I.of .i64 8) (@I.rem .i64 (@I.sub .i64 (@I.sub .i64 x2.1.2.2.1 (I.of .i64 1)) x2.1.2.2.2.1) (I.of .i64 8)))))
            (brn (@inB .i64 (@I.quo .i64 (@I.sub .i64 (@I.sub .i64 x2.1.2.2.1 (I.of .i64 1)) x2.1.2.2.2.1) (I.of .i64 8)) 4)
             (.again ((x2.1.1,(x2.1.2.1,(x2.1.2.2.1,((@I.add .i64 x2.1.2.2.2.1 (I.of .i64 1)),())))),(x2.2.1,((@Arr.upd (I .u64) 4 x2.2.2.1 (@I.nat .i64 (@I.quo .i64 (@I.sub .i64 (@I.sub .i64 x2.1.2.2.1 (I.of .i64 1)) x2.1.2.2.2.1) (I.of .i64 8))) (@I.add .u64 (@Arr.sel (I .u64) (I.of .u64 0) 4 x2.2.2.1 (@I.nat .i64 (@I.quo .i64 (@I.sub .i64 (@I.sub .i64 x2.1.2.2.1 (I.of .i64 1)) x2.1.2.2.2.1) (I.of .i64 8)))) (@I.shl .u64 .u64 (I.conv (k:=.u8) .u64 (@rdL (I .u8) (I.of .u8 0) x2.1.1 (@I.nat .i64 (@I.add .i64 (@I.add .i64 x2.1.2.1 (I.of .i64 1)) x2.1.2.2.2.1)))) (I.conv (k:=.i64) .u64 (@I.mul .i64 (I.of .i64 8) (@I.rem .i64 (@I.sub .i64 (@I.sub .i64 x2.1.2.2.1 (I.of .i64 1)) x2.1.2.2.2.1) (I.of .i64 8))))))),()))))
             (.done (none)))
            (.done (none)))
           (.done (none)))
          (.done (none)))
         (.done (some ((x2.2.2.1,((@I.add .i64 (@I.add .i64 x2.1.2.1 (I.of .i64 1)) x2.1.2.2.1),((I.of .i64 0),()))),()))))
      K ((x1.1.1,(x1.1.2.1,((I.conv (k:=.u8) .i64 (@rdL (I .u8) (I.of .u8 0) x1.1.1 (@I.nat .i64 x1.1.2.1))),((I.of .i64 0),())))),(x1.2.1,(x1.2.2.1,()))))
      (none)) fun j1 =>
   brn (@I.eqb .i64 x0.1.2.1 (I.ofNat .i64 (@lenL (I .u8) x0.1.1)))
    (some ((x0.2.2.1,((I.of .i64 0),((I.of .i64 3),()))),()))
    (brn (@inB .i64 x0.1.2.1 (@lenL (I .u8) x0.1.1))
     (brn (@I.ltb .i64 x0.1.2.2.1 (I.conv (k:=.u8) .i64 (@rdL (I .u8) (I.of .u8 0) x0.1.1 (@I.nat .i64 x0.1.2.1))))
      (some ((x0.2.2.1,((I.of .i64 0),((I.of .i64 3),()))),()))
      (brn (@inB .i64 x0.1.2.1 (@lenL (I .u8) x0.1.1))
       (brn (@I.ltb .i64 (@I.sub .i64 (@I.sub .i64 (I.ofNat .i64 (@lenL (I .u8) x0.1.1)) x0.1.2.1) (I.of .i64 1)) (I.conv (k:=.u8) .i64 (@rdL (I .u8) (I.of .u8 0) x0.1.1 (@I.nat .i64 x0.1.2.1))))
        (some ((x0.2.2.1,((I.of .i64 0),((I.of .i64 3),()))),()))
        (brn (@inB .i64 x0.1.2.1 (@lenL (I .u8) x0.1.1))
         (brn (@I.ltb .u8 (I.of .u8 0) (@rdL (I .u8) (I.of .u8 0) x0.1.1 (@I.nat .i64 x0.1.2.1)))
          (brn (@inB .i64 (@I.add .i64 x0.1.2.1 (I.of .i64 1)) (@lenL (I .u8) x0.1.1))
           (brn (@I.eqb .u8 (@rdL (I .u8) (I.of .u8 0) x0.1.1 (@I.nat .i64 (@I.add .i64 x0.1.2.1 (I.of .i64 1)))) (I.of .u8 0))
            (some ((x0.2.2.1,((I.of .i64 0),((I.of .i64 3),()))),()))
            (j1 ((x0.1.1,(x0.1.2.1,())),(x0.2.1,(x0.2.2.1,())))))
           (none))
          (j1 ((x0.1.1,(x0.1.2.1,())),(x0.2.1,(x0.2.2.1,())))))
         (none)))
       (none)))
     (none))) fun j0 =>
 brn (@I.ltb .i64 b (I.of .i64 0))
  (some ((Z_U,((I.of .i64 0),((I.of .i64 2),()))),()))
  (brn (@I.ltb .i64 (I.ofNat .i64 (@lenL (I .u8) a)) b)
   (some ((Z_U,((I.of .i64 0),((I.of .i64 2),()))),()))
   (j0 ((a,(b,(c,()))),(Z_U,(Z_U,())))))
noncomputable def pontageref6_ReadUint64 (K:Nat) (x:(⟨[.pl (.sl (.int .u8)),.pl (.int .i64)],[]⟩:Tm).D):Option (⟨[.pl (.int .u64),.pl (.int .i64),.pl (.int .i64)],[]⟩:Tm).D :=
 let a:(List (I .u8)):=x.1.1
 let b:(I .i64):=x.1.2.1
 optF (none) (pontageref6_take K ((a,(b,((I.of .i64 8),()))),())) fun y0 =>
 some ((y0.1.1.1,(y0.1.2.1,(y0.1.2.2.1,()))),())
noncomputable def pontageref6_ReadBytes (K:Nat) (x:(⟨[.pl (.sl (.int .u8)),.pl (.int .i64)],[]⟩:Tm).D):Option (⟨[.pl (.sl (.int .u8)),.pl (.int .i64),.pl (.int .i64)],[]⟩:Tm).D :=
 let a:(List (I .u8)):=x.1.1
 let b:(I .i64):=x.1.2.1
 optF (none) (pontageref6_ReadUint64 K ((a,(b,())),())) fun y0 =>
 brn (@I.neb .i64 y0.1.2.2.1 (I.of .i64 0))
  (some (([],((I.of .i64 0),(y0.1.2.2.1,()))),()))
  (brn (@I.ltb .u64 (I.conv (k:=.i64) .u64 (@I.sub .i64 (I.ofNat .i64 (@lenL (I .u8) a)) y0.1.2.1)) y0.1.1)
   (some (([],((I.of .i64 0),((I.of .i64 3),()))),()))
   (brn (@inB' .i64 y0.1.2.1 (@I.nat .i64 (@I.add .i64 y0.1.2.1 (I.conv (k:=.u64) .i64 y0.1.1))))
    (brn (@inB' .i64 (@I.add .i64 y0.1.2.1 (I.conv (k:=.u64) .i64 y0.1.1)) (@lenL (I .u8) a))
     (brn (fitsLen (@lenL (I .u8) (@appL (I .u8) [] (@subL (I .u8) a (@I.nat .i64 y0.1.2.1) ((@I.nat .i64 (@I.add .i64 y0.1.2.1 (I.conv (k:=.u64) .i64 y0.1.1))) - (@I.nat .i64 y0.1.2.1))))))
      (some (((@appL (I .u8) [] (@subL (I .u8) a (@I.nat .i64 y0.1.2.1) ((@I.nat .i64 (@I.add .i64 y0.1.2.1 (I.conv (k:=.u64) .i64 y0.1.1))) - (@I.nat .i64 y0.1.2.1)))),((@I.add .i64 y0.1.2.1 (I.conv (k:=.u64) .i64 y0.1.1)),((I.of .i64 0),()))),()))
      (none))
     (none))
    (none)))
noncomputable def pontagelaw29_decodable (K:Nat) (x:(⟨[.pl (.sl (.int .u8))],[]⟩:Tm).D):Option (⟨[.pl .bool],[]⟩:Tm).D :=
 let a:(List (I .u8)):=x.1.1
 iter (none) (fun x0 =>
   brn (@I.ltb .i64 x0.1.2.1 (I.ofNat .i64 (@lenL (I .u8) x0.1.1)))
    (optF (.done (none)) (pontageref6_ReadBytes K ((x0.1.1,(x0.1.2.1,())),())) fun y1 =>
    brn (@I.neb .i64 y1.1.2.2.1 (I.of .i64 0))
     (.done (some ((false,()),())))
     (.again ((x0.1.1,(y1.1.2.1,())),())))
    (.done (some ((true,()),()))))
 K ((a,((I.of .i64 0),())),())
noncomputable def pontagelaw29_ScriptDecode (K:Nat) (x:(⟨[.pl (.sl (.int .u8)),.pl (.sl (.sl (.int .u8))),.pl (.int .i64),.pl (.int .u8)],[]⟩:Tm).D):Option (⟨[.pl .bool],[]⟩:Tm).D :=
 let a:(List (I .u8)):=x.1.1
 let b:(List (List (I .u8))):=x.1.2.1
 let c:(I .i64):=x.1.2.2.1
 let d:(I .u8):=x.1.2.2.2.1
 jn (fun (x0:(((List (I .u8)) × ((List (List (I .u8))) × ((I .i64) × ((I .u8) × Unit)))) × Unit)) =>
   optF (none) (pontagelaw29_encode K ((x0.1.2.1,()),())) fun y1 =>
   jn (fun (x2:(((List (I .u8)) × Unit) × ((List (I .u8)) × Unit))) =>
     iter (none) (fun x3 =>
       brn (@I.ltb .i64 x3.1.2.1 (I.of .i64 2))
        (brn (@inB .i64 x3.1.2.1 2)
         (optF (.done (none)) (script_Decode K (((@Arr.sel (List (I .u8)) [] 2 x3.1.1 (@I.nat .i64 x3.1.2.1)),()),())) fun y4 =>
         brn (@I.neb .i64 y4.1.2.1 (I.of .i64 0))
          (brn (@I.neb .i64 y4.1.2.1 (I.of .i64 3))
           (.done (some ((false,()),())))
           (brn (@I.ltb .i64 (I.of .i64 0) (I.ofNat .i64 (@lenL (List (I .u8)) y4.1.1)))
            (.done (some ((false,()),())))
            (optF (.done (none)) (pontagelaw29_decodable K (((@Arr.sel (List (I .u8)) [] 2 x3.1.1 (@I.nat .i64 x3.1.2.1)),()),())) fun y5 =>
            brn y5.1.1
             (.done (some ((false,()),())))
             (.again ((x3.1.1,((@I.add .i64 x3.1.2.1 (I.of .i64 1)),())),())))))
          (optF (.done (none)) (pontagelaw29_encode K ((y4.1.1,()),())) fun y5 =>
          optF (.done (none)) (pontagelaw0_EqualBytes K ((y5.2.1,((@Arr.sel (List (I .u8)) [] 2 x3.1.1 (@I.nat .i64 x3.1.2.1)),())),())) fun y6 =>
          brn (bnot y6.1.1)
           (.done (some ((false,()),())))
           (.again ((x3.1.1,((@I.add .i64 x3.1.2.1 (I.of .i64 1)),())),()))))
         (.done (none)))
        (.done (optF (none) (pontagelaw29_awake K ((),())) fun y4 =>
        some ((y4.1.1,()),()))))
     K (((x2.1.1,(x2.2.1,())),((I.of .i64 0),())),())) fun j2 =>
   brn (@I.ltb .i64 (I.of .i64 0) (I.ofNat .i64 (@lenL (I .u8) y1.2.1)))
    (optF (none) (pontagelaw0_Mod K ((x0.1.2.2.1,((I.ofNat .i64 (@lenL (I .u8) y1.2.1)),())),())) fun y3 =>
    brn (@inB .i64 y3.1.1 (@lenL (I .u8) y1.2.1))
     (j2 ((x0.1.1,()),((@setL (I .u8) y1.2.1 (@I.nat .i64 y3.1.1) x0.1.2.2.2.1),())))
     (none))
    (j2 ((x0.1.1,()),(y1.2.1,())))) fun j0 =>
 jn (fun (x1:(((List (I .u8)) × ((List (List (I .u8))) × ((I .i64) × ((I .u8) × (Bool × Unit))))) × Unit)) =>
   brn x1.1.2.2.2.2.1
    (optF (none) (pontagelaw29_awake K ((),())) fun y2 =>
    some ((y2.1.1,()),()))
    (j0 ((x1.1.1,(x1.1.2.1,(x1.1.2.2.1,(x1.1.2.2.2.1,())))),()))) fun j1 =>
 brn (@I.ltb .i64 (I.of .i64 600) (I.ofNat .i64 (@lenL (I .u8) a)))
  (j1 ((a,(b,(c,(d,(true,()))))),()))
  (optF (none) (pontagelaw29_tooLarge K ((b,()),())) fun y2 =>
  j1 ((a,(b,(c,(d,(y2.1.1,()))))),()))
end Sym

/- The contracts of the given functions. -/
namespace Sym
open Go Go.Proofs
set_option maxRecDepth 100000
def tys:List (Nat × Ty):=[(1,.fnc),(2,(.int .i64)),(3,(.int .i64)),(4,.bool),(5,(.int .u8)),(6,(.int .u8)),(7,Y_runtime_boundsError),(8,Y_runtime_boundsError),(9,.str),(10,.str),(11,.str),(22,(.sl (.int .u8))),(23,(.sl (.sl (.int .u8)))),(28,(.arr 2 (.sl (.int .u8)))),(29,(.int .i64)),(38,(.sl Y_api_Receipt)),(43,(.int .u64)),(46,u256),(51,(.sl (.arr 32 (.int .u8)))),(57,Y_api_Params),(59,Y_api_Block),(62,(.sl Y_api_Poster)),(64,Y_api_Pricer),(65,(.sl Y_api_Account)),(66,(.arr 4 u256)),(67,(.sl Y_api_Report)),(68,(.sl .bool)),(69,(.sl Y_api_Payment)),(71,Y_api_State),(76,.opq),(83,Y_api_Receipt),(88,.fnc),(97,(.int .u64)),(98,.opq),(116,.opq),(118,.opq),(120,.opq),(123,Y_executor_Machine),(148,(.sl (.int .u64))),(152,Y_wirereader_Reader),(171,Y_pontageref11_Ledger),(172,.opq),(175,Y_outbox_Outbox),(177,Y_escrow_Escrow),(251,(.cons (.sl (.arr 32 (.int .u8))) .nil)),(354,.opq),(356,.opq),(357,.opq),(389,(.arr 8 (.int .u64)))]
def eqs:List (Nat × Ty):=[(2,(.int .i64)),(3,(.int .i64)),(4,.bool),(5,(.int .u8)),(6,(.int .u8)),(7,Y_runtime_boundsError),(8,Y_runtime_boundsError),(29,(.int .i64)),(43,(.int .u64)),(46,u256),(57,Y_api_Params),(59,Y_api_Block),(66,(.arr 4 u256)),(76,.opq),(97,(.int .u64)),(98,.opq),(116,.opq),(118,.opq),(120,.opq),(172,.opq),(354,.opq),(356,.opq),(357,.opq),(389,(.arr 8 (.int .u64)))]
theorem tysOk:tys.all (fun x=>tiB Tryz.prog x.1 x.2) = true:=by kernel_rfl
theorem eqsOk:eqs.all (fun x=>eqiB Tryz.prog x.1 x.2) = true:=by kernel_rfl
theorem follows:Tryz.prog.follows .mixedOrders = true:=by kernel_rfl
theorem noOddP:noOdd Tryz.prog:=noOdd_of (by kernel_rfl)
def owns:List Nat:=[71,83,123,143,147,150,171,175,177,251,407,409]
def meths : List (Nat × String × FuncId × Option Nat) := [(411, "Len", 426, some 407), (411, "Less", 427, some 407), (411, "Pop", 429, none), (411, "Push", 430, none), (411, "Swap", 428, some 407)]
theorem methsOk:meths.all (fun x=>methB Tryz.prog x.1 x.2.1 x.2.2.1 x.2.2.2) = true:=by kernel_rfl
theorem mkOk {C:Con} {n k:Nat} {hs:List (Nat × How)} {A:Anns} (h:HowsOk Tryz.prog hs) (e:∀ x,evalFn (mkEnv Tryz.prog tys eqs hs owns meths) A n C.In C.Out k K0 x = C.F x) (hko:keepOut C.In.heap C.Out.heap = true:=by rfl):ConOk Tryz.prog n C:=con_of_ev (E:=mkEnv Tryz.prog tys eqs hs owns meths) (envOk tysOk eqsOk h follows methsOk) noOddP (fun x _ h=>⟨A,k,K0,(e x).trans h⟩) hko
noncomputable def pontagelaw29_tooLargeC:Con:=⟨⟨[.pl (.sl (.sl (.int .u8)))],[]⟩,⟨[.pl .bool],[]⟩,pontagelaw29_tooLarge K0⟩
theorem ok9:ConOk Tryz.prog 9 pontagelaw29_tooLargeC:=mkOk (n:=9) (k:=160) (hs:=[]) (A:=annL [([9],0,.tmpl ⟨(.pl (.sl (.sl (.int .u8))) :: dd 2 (.pl (.int .i64) :: .pl (.int .i64) :: dd 16 [])),[]⟩)]) trivial (by intro x; kernel_rfl)
noncomputable def wirereader_NewC:Con:=⟨⟨[.pl (.sl (.int .u8))],[]⟩,⟨[.ptr 0 []],[.box Y_wirereader_Reader (.pl Y_wirereader_Reader)]⟩,wirereader_New K0⟩
theorem ok34:ConOk Tryz.prog 34 wirereader_NewC:=mkOk (n:=34) (k:=140) (hs:=[]) (A:=fun _ _=>none) trivial (by intro x; kernel_rfl)
noncomputable def wirereader_Reader_DoneC:Con:=⟨⟨[.bp Y_wirereader_Reader],[]⟩,⟨[.pl .bool],[]⟩,wirereader_Reader_Done K0⟩
theorem ok35:ConOk Tryz.prog 35 wirereader_Reader_DoneC:=mkOk (n:=35) (k:=140) (hs:=[]) (A:=fun _ _=>none) trivial (by intro x; kernel_rfl)
noncomputable def wirereader_Reader_BadC:Con:=⟨⟨[.bp Y_wirereader_Reader],[]⟩,⟨[.pl .bool],[]⟩,wirereader_Reader_Bad K0⟩
theorem ok36:ConOk Tryz.prog 36 wirereader_Reader_BadC:=mkOk (n:=36) (k:=140) (hs:=[]) (A:=fun _ _=>none) trivial (by intro x; kernel_rfl)
noncomputable def wire_readUintC:Con:=⟨⟨[.pl (.sl (.int .u8)),.pl (.int .i64),.pl (.int .i64)],[]⟩,⟨[.pl u256,.pl (.int .i64),.pl (.int .i64)],[]⟩,wire_readUint K0⟩
theorem ok161:ConOk Tryz.prog 161 wire_readUintC:=mkOk (n:=161) (k:=60) (hs:=[]) (A:=annL [([1000000,161],11,.join ⟨(dd 1 (.pl (.int .i64) :: dd 4 (.ptr 0 [] :: dd 2 (.pl (.sl (.int .u8)) :: .pl (.int .i64) :: dd 74 [])))),[.box u256 (.pl u256)]⟩),([1000000,161],4,.join ⟨(.pl (.sl (.int .u8)) :: .pl (.int .i64) :: .pl (.int .i64) :: dd 3 (.ptr 0 [] :: dd 78 [])),[.box u256 (.pl u256)]⟩),([161],0,.tmpl ⟨(dd 1 (.pl (.int .i64) :: dd 4 (.ptr 0 [] :: dd 2 (.pl (.sl (.int .u8)) :: .pl (.int .i64) :: .ptr 1 [] :: dd 44 (.pl (.int .i64) :: .pl (.int .i64) :: dd 27 []))))),[.box u256 (.pl u256),.box u256 (.pl u256)]⟩)]) trivial (by intro x; kernel_rfl)
noncomputable def wire_ReadUint64C:Con:=⟨⟨[.pl (.sl (.int .u8)),.pl (.int .i64)],[]⟩,⟨[.pl (.int .u64),.pl (.int .i64),.pl (.int .i64)],[]⟩,wire_ReadUint64 K0⟩
theorem ok116:ConOk Tryz.prog 116 wire_ReadUint64C:=mkOk (n:=116) (k:=60) (hs:=[(161,.con wire_readUintC)]) (A:=fun _ _=>none) ⟨ok161,trivial⟩ (by intro x; kernel_rfl)
noncomputable def slices_Clone___byte_byte_cC:Con:=⟨⟨[.pl (.sl (.int .u8))],[]⟩,⟨[.pl (.sl (.int .u8))],[]⟩,slices_Clone___byte_byte_c K0⟩
theorem okc117:ConOk Tryz.prog 117 slices_Clone___byte_byte_cC:=mkOk (n:=117) (k:=60) (hs:=[]) (A:=fun _ _=>none) trivial (by intro x; exact Eq.trans (b:=slices_Clone___byte_byte_ K0 x) (by kernel_rfl) (slices_Clone___byte_byte_c_eq K0 x))
noncomputable def wire_ReadBytesC:Con:=⟨⟨[.pl (.sl (.int .u8)),.pl (.int .i64)],[]⟩,⟨[.pl (.sl (.int .u8)),.pl (.int .i64),.pl (.int .i64)],[]⟩,wire_ReadBytes K0⟩
theorem ok78:ConOk Tryz.prog 78 wire_ReadBytesC:=mkOk (n:=78) (k:=60) (hs:=[(116,.con wire_ReadUint64C),(117,.con slices_Clone___byte_byte_cC)]) (A:=fun _ _=>none) ⟨ok116,okc117,trivial⟩ (by intro x; kernel_rfl)
noncomputable def wirereader_Reader_advanceC:Con:=⟨⟨[.ptr 0 [],.pl (.int .i64),.pl (.int .i64)],[.box Y_wirereader_Reader (.pl Y_wirereader_Reader)]⟩,⟨[.pl .bool],[.box Y_wirereader_Reader (.pl Y_wirereader_Reader)]⟩,wirereader_Reader_advance K0⟩
theorem ok79:ConOk Tryz.prog 79 wirereader_Reader_advanceC:=mkOk (n:=79) (k:=140) (hs:=[]) (A:=fun _ _=>none) trivial (by intro x; kernel_rfl)
noncomputable def wirereader_Reader_BytesC:Con:=⟨⟨[.ptr 0 []],[.box Y_wirereader_Reader (.pl Y_wirereader_Reader)]⟩,⟨[.pl (.sl (.int .u8))],[.box Y_wirereader_Reader (.pl Y_wirereader_Reader)]⟩,wirereader_Reader_Bytes K0⟩
theorem ok37:ConOk Tryz.prog 37 wirereader_Reader_BytesC:=mkOk (n:=37) (k:=140) (hs:=[(78,.con wire_ReadBytesC),(79,.con wirereader_Reader_advanceC)]) (A:=fun _ _=>none) ⟨ok78,ok79,trivial⟩ (by intro x; kernel_rfl)
noncomputable def script_DecodeC:Con:=⟨⟨[.pl (.sl (.int .u8))],[]⟩,⟨[.pl (.sl (.sl (.int .u8))),.pl (.int .i64)],[]⟩,script_Decode K0⟩
theorem ok13:ConOk Tryz.prog 13 script_DecodeC:=mkOk (n:=13) (k:=60) (hs:=[(34,.con wirereader_NewC),(35,.con wirereader_Reader_DoneC),(36,.con wirereader_Reader_BadC),(37,.con wirereader_Reader_BytesC)]) (A:=annL [([1000000,13],6,.join ⟨(dd 4 (.whole 0 :: .ptr 1 [] :: dd 18 [])),[.row (.sl (.int .u8)),.box Y_wirereader_Reader (.pl Y_wirereader_Reader)]⟩),([13],0,.tmpl ⟨(dd 4 (.whole 0 :: .ptr 1 [] :: dd 18 [])),[.row (.sl (.int .u8)),.box Y_wirereader_Reader (.pl Y_wirereader_Reader)]⟩)]) ⟨ok34,ok35,ok36,ok37,trivial⟩ (by intro x; kernel_rfl)
noncomputable def uint256_FromUint64C:Con:=⟨⟨[.pl (.int .u64)],[]⟩,⟨[.pl u256],[]⟩,uint256_FromUint64 K0⟩
theorem ok93:ConOk Tryz.prog 93 uint256_FromUint64C:=mkOk (n:=93) (k:=60) (hs:=[]) (A:=fun _ _=>none) trivial (by intro x; kernel_rfl)
noncomputable def params_GenesisC:Con:=⟨⟨[],[]⟩,⟨[.pl Y_api_Params],[]⟩,params_Genesis K0⟩
theorem ok49:ConOk Tryz.prog 49 params_GenesisC:=mkOk (n:=49) (k:=60) (hs:=[(93,.con uint256_FromUint64C)]) (A:=fun _ _=>none) ⟨ok93,trivial⟩ (by intro x; kernel_rfl)
noncomputable def params_GetC:Con:=⟨⟨[.pl Y_api_Params,.pl (.int .i64)],[]⟩,⟨[.pl u256,.pl (.int .i64)],[]⟩,params_Get K0⟩
theorem ok312:ConOk Tryz.prog 312 params_GetC:=mkOk (n:=312) (k:=90) (hs:=[(93,.con uint256_FromUint64C),(304,.inl),(305,.inl)]) (A:=fun _ _=>none) ⟨ok93,trivial⟩ (by intro x; kernel_rfl)
noncomputable def params_boundsC:Con:=⟨⟨[.pl Y_api_Params,.pl (.int .i64)],[]⟩,⟨[.pl (.int .u64),.pl (.int .u64)],[]⟩,params_bounds K0⟩
theorem ok313:ConOk Tryz.prog 313 params_boundsC:=mkOk (n:=313) (k:=60) (hs:=[]) (A:=annL [([1000000,313],12,.join ⟨(dd 2 (.ptr 0 [] :: dd 3 (.pl (.int .i64) :: dd 7 (.pl .bool :: dd 10 [])))),[.box Y_api_Params (.pl Y_api_Params)]⟩),([1000000,313],6,.join ⟨(dd 2 (.ptr 0 [] :: dd 3 (.pl (.int .i64) :: .pl .bool :: dd 17 []))),[.box Y_api_Params (.pl Y_api_Params)]⟩),([1000000,313],9,.join ⟨(dd 2 (.ptr 0 [] :: dd 3 (.pl (.int .i64) :: dd 4 (.pl .bool :: dd 13 [])))),[.box Y_api_Params (.pl Y_api_Params)]⟩)]) trivial (by intro x; kernel_rfl)
noncomputable def uint256_CmpC:Con:=⟨⟨[.pl u256,.pl u256],[]⟩,⟨[.pl (.int .i64)],[]⟩,uint256_Cmp⟩
theorem ok314:ConOk Tryz.prog 314 uint256_CmpC:=mkOk (n:=314) (k:=60) (hs:=[]) (A:=fun p _=>match p with | 1000000 :: _=>none | _=>some (.unroll 6)) trivial (by intro x; kernel_rfl)
noncomputable def params_FirstInvalidC:Con:=⟨⟨[.pl Y_api_Params],[]⟩,⟨[.pl (.int .i64)],[]⟩,params_FirstInvalid K0⟩
theorem ok263:ConOk Tryz.prog 263 params_FirstInvalidC:=mkOk (n:=263) (k:=60) (hs:=[(93,.con uint256_FromUint64C),(312,.con params_GetC),(313,.con params_boundsC),(314,.con uint256_CmpC)]) (A:=annL [([263],0,.tmpl ⟨(dd 1 (.ptr 0 [] :: dd 1 (.pl (.int .i64) :: dd 33 []))),[.box Y_api_Params (.pl Y_api_Params)]⟩)]) ⟨ok93,ok312,ok313,ok314,trivial⟩ (by intro x; kernel_rfl)
noncomputable def params_ValidC:Con:=⟨⟨[.pl Y_api_Params],[]⟩,⟨[.pl .bool],[]⟩,params_Valid K0⟩
theorem ok211:ConOk Tryz.prog 211 params_ValidC:=mkOk (n:=211) (k:=60) (hs:=[(263,.con params_FirstInvalidC)]) (A:=fun _ _=>none) ⟨ok263,trivial⟩ (by intro x; kernel_rfl)
noncomputable def math_bits_Mul64C:Con:=⟨⟨[.pl (.int .u64),.pl (.int .u64)],[]⟩,⟨[.pl (.int .u64),.pl (.int .u64)],[]⟩,math_bits_Mul64 K0⟩
theorem ok212:ConOk Tryz.prog 212 math_bits_Mul64C:=mkOk (n:=212) (k:=60) (hs:=[]) (A:=fun _ _=>none) trivial (by intro x; kernel_rfl)
noncomputable def backlog_DrainC:Con:=⟨⟨[.pl (.int .u64),.pl (.int .u64),.pl (.int .u64)],[]⟩,⟨[.pl (.int .u64)],[]⟩,backlog_Drain K0⟩
theorem ok254:ConOk Tryz.prog 254 backlog_DrainC:=mkOk (n:=254) (k:=60) (hs:=[(212,.con math_bits_Mul64C)]) (A:=fun _ _=>none) ⟨ok212,trivial⟩ (by intro x; kernel_rfl)
noncomputable def backlog_ExcessC:Con:=⟨⟨[.pl (.int .u64),.pl (.int .u64),.pl (.int .u64)],[]⟩,⟨[.pl (.int .u64)],[]⟩,backlog_Excess K0⟩
theorem ok213:ConOk Tryz.prog 213 backlog_ExcessC:=mkOk (n:=213) (k:=60) (hs:=[(254,.con backlog_DrainC)]) (A:=fun _ _=>none) ⟨ok254,trivial⟩ (by intro x; kernel_rfl)
noncomputable def math_bits_Len64C:Con:=⟨⟨[.pl (.int .u64)],[]⟩,⟨[.pl (.int .i64)],[]⟩,math_bits_Len64 K0⟩
theorem ok220:ConOk Tryz.prog 220 math_bits_Len64C:=mkOk (n:=220) (k:=60) (hs:=[]) (A:=annL [([1000000,220],5,.join ⟨(.pl (.int .u64) :: dd 1 (.pl (.int .i64) :: dd 22 [])),[]⟩),([1000000,220],8,.join ⟨(.pl (.int .u64) :: dd 1 (.pl (.int .i64) :: dd 22 [])),[]⟩)]) trivial (by intro x; kernel_rfl)
noncomputable def math_bits_LeadingZeros64C:Con:=⟨⟨[.pl (.int .u64)],[]⟩,⟨[.pl (.int .i64)],[]⟩,math_bits_LeadingZeros64 K0⟩
theorem ok264:ConOk Tryz.prog 264 math_bits_LeadingZeros64C:=mkOk (n:=264) (k:=60) (hs:=[(220,.con math_bits_Len64C)]) (A:=fun _ _=>none) ⟨ok220,trivial⟩ (by intro x; kernel_rfl)
noncomputable def math_bits_Div64C:Con:=⟨⟨[.pl (.int .u64),.pl (.int .u64),.pl (.int .u64)],[]⟩,⟨[.pl (.int .u64),.pl (.int .u64)],[]⟩,math_bits_Div64 K0⟩
theorem ok214:ConOk Tryz.prog 214 math_bits_Div64C:=mkOk (n:=214) (k:=60) (hs:=[(264,.con math_bits_LeadingZeros64C)]) (A:=annL [([1000000,214],19,.join ⟨(dd 2 (.pl (.int .u64) :: dd 5 (.pl (.int .u64) :: .pl (.int .u64) :: .pl (.int .u64) :: .pl (.int .u64) :: dd 1 (.pl (.int .u64) :: .pl (.int .u64) :: .pl (.int .u64) :: .pl (.int .u64) :: dd 118 [])))),[]⟩),([1000000,214],22,.join ⟨(dd 2 (.pl (.int .u64) :: dd 5 (.pl (.int .u64) :: .pl (.int .u64) :: .pl (.int .u64) :: .pl (.int .u64) :: dd 1 (.pl (.int .u64) :: .pl (.int .u64) :: .pl (.int .u64) :: dd 119 [])))),[]⟩),([1000000,214],26,.join ⟨(dd 2 (.pl (.int .u64) :: dd 5 (.pl (.int .u64) :: .pl (.int .u64) :: .pl (.int .u64) :: dd 3 (.pl (.int .u64) :: .pl (.int .u64) :: .pl (.int .u64) :: .pl (.int .u64) :: .pl (.int .u64) :: dd 116 [])))),[]⟩),([1000000,214],29,.join ⟨(dd 2 (.pl (.int .u64) :: dd 5 (.pl (.int .u64) :: dd 5 (.pl (.int .u64) :: .pl (.int .u64) :: dd 1 (.pl (.int .u64) :: .pl (.int .u64) :: dd 116 []))))),[]⟩),([1000000,214],4,.join ⟨(.pl (.int .u64) :: .pl (.int .u64) :: .pl (.int .u64) :: dd 132 []),[]⟩),([1000000,214],6,.join ⟨(.pl (.int .u64) :: .pl (.int .u64) :: .pl (.int .u64) :: dd 132 []),[]⟩),([214],0,.tmpl ⟨(dd 2 (.pl (.int .u64) :: dd 5 (.pl (.int .u64) :: .pl (.int .u64) :: .pl (.int .u64) :: .pl (.int .u64) :: dd 1 (.pl (.int .u64) :: .pl (.int .u64) :: .pl (.int .u64) :: .pl (.int .u64) :: dd 118 [])))),[]⟩),([214],2,.tmpl ⟨(dd 2 (.pl (.int .u64) :: dd 5 (.pl (.int .u64) :: .pl (.int .u64) :: .pl (.int .u64) :: dd 3 (.pl (.int .u64) :: .pl (.int .u64) :: .pl (.int .u64) :: .pl (.int .u64) :: .pl (.int .u64) :: dd 116 [])))),[]⟩)]) ⟨ok264,trivial⟩ (by intro x; kernel_rfl)
noncomputable def basefee_ExponentC:Con:=⟨⟨[.pl (.int .u64),.pl Y_api_Params],[]⟩,⟨[.pl (.int .u64),.pl (.int .i64)],[]⟩,basefee_Exponent K0⟩
theorem ok154:ConOk Tryz.prog 154 basefee_ExponentC:=mkOk (n:=154) (k:=60) (hs:=[(211,.con params_ValidC),(212,.con math_bits_Mul64C),(213,.con backlog_ExcessC),(214,.con math_bits_Div64C)]) (A:=fun _ _=>none) ⟨ok211,ok212,ok213,ok214,trivial⟩ (by intro x; kernel_rfl)
noncomputable def bips_ExpC:Con:=⟨⟨[.pl (.int .u64),.pl (.int .i64)],[]⟩,⟨[.pl (.int .u64),.pl (.int .i64)],[]⟩,bips_Exp K0⟩
theorem ok215:ConOk Tryz.prog 215 bips_ExpC:=mkOk (n:=215) (k:=60) (hs:=[]) (A:=annL [([1000000,215],4,.join ⟨(.pl (.int .u64) :: .pl (.int .i64) :: dd 30 []),[]⟩),([215],0,.tmpl ⟨(.pl (.int .u64) :: dd 5 (.pl (.int .u64) :: .pl (.int .i64) :: dd 24 [])),[]⟩)]) trivial (by intro x; kernel_rfl)
theorem ok283:ConOk Tryz.prog 283 add64C:=add64_ok (fn:=Tryz.f283) (by kernel_rfl) (by kernel_rfl) (by kernel_rfl) (by kernel_rfl) (by kernel_rfl)
noncomputable def muldiv_MulC:Con:=⟨⟨[.pl u256,.pl u256],[]⟩,⟨[.pl u256,.pl u256],[]⟩,muldiv_Mul K0⟩
theorem ok315:ConOk Tryz.prog 315 muldiv_MulC:=mkOk (n:=315) (k:=60) (hs:=[(212,.con math_bits_Mul64C),(283,.con add64C)]) (A:=annL [([315],0,.tmpl ⟨(dd 2 (.ptr 0 [] :: .ptr 1 [] :: .ptr 2 [] :: .ptr 3 [] :: .ptr 4 [] :: dd 6 (.pl (.int .i64) :: dd 55 []))),[.box u256 (.pl u256),.box u256 (.pl u256),.box u256 (.pl u256),.box u256 (.pl u256),.box (.arr 8 (.int .u64)) (.pl (.arr 8 (.int .u64)))]⟩),([315],2,.tmpl ⟨(dd 2 (.ptr 0 [] :: .ptr 1 [] :: .ptr 2 [] :: .ptr 3 [] :: .ptr 4 [] :: .pl (.int .i64) :: .pl (.int .u64) :: dd 4 (.pl (.int .i64) :: dd 2 (.pl (.int .i64) :: dd 52 [])))),[.box u256 (.pl u256),.box u256 (.pl u256),.box u256 (.pl u256),.box u256 (.pl u256),.box (.arr 8 (.int .u64)) (.pl (.arr 8 (.int .u64)))]⟩)]) ⟨ok212,ok283,trivial⟩ (by intro x; kernel_rfl)
noncomputable def muldiv_shiftLeftC:Con:=⟨⟨[.pl u256,.pl (.int .u64)],[]⟩,⟨[.pl u256,.pl (.int .u64)],[]⟩,muldiv_shiftLeft K0⟩
theorem ok352:ConOk Tryz.prog 352 muldiv_shiftLeftC:=mkOk (n:=352) (k:=60) (hs:=[]) (A:=annL [([352],0,.tmpl ⟨(dd 1 (.pl (.int .u64) :: .ptr 0 [] :: dd 1 (.ptr 1 [] :: dd 1 (.pl (.int .u64) :: .pl (.int .i64) :: dd 27 [])))),[.box u256 (.pl u256),.box u256 (.pl u256)]⟩)]) trivial (by intro x; kernel_rfl)
theorem ok341:ConOk Tryz.prog 341 sub64C:=sub64_ok (fn:=Tryz.f341) (by kernel_rfl) (by kernel_rfl) (by kernel_rfl) (by kernel_rfl) (by kernel_rfl)
noncomputable def muldiv_subWrapC:Con:=⟨⟨[.pl u256,.pl u256],[]⟩,⟨[.pl u256],[]⟩,muldiv_subWrap K0⟩
theorem ok353:ConOk Tryz.prog 353 muldiv_subWrapC:=mkOk (n:=353) (k:=60) (hs:=[(341,.con sub64C)]) (A:=annL [([353],0,.tmpl ⟨(dd 2 (.ptr 0 [] :: .ptr 1 [] :: .ptr 2 [] :: .pl (.int .u64) :: dd 1 (.pl (.int .i64) :: dd 17 []))),[.box u256 (.pl u256),.box u256 (.pl u256),.box u256 (.pl u256)]⟩)]) ⟨ok341,trivial⟩ (by intro x; kernel_rfl)
noncomputable def muldiv_Div512C:Con:=⟨⟨[.pl u256,.pl u256,.pl u256],[]⟩,⟨[.pl u256,.pl u256,.pl (.int .i64)],[]⟩,muldiv_Div512 K0⟩
theorem ok316:ConOk Tryz.prog 316 muldiv_Div512C:=mkOk (n:=316) (k:=60) (hs:=[(314,.con uint256_CmpC),(352,.con muldiv_shiftLeftC),(353,.con muldiv_subWrapC)]) (A:=annL [([1000000,316],13,.join ⟨(dd 3 (.ptr 0 [] :: dd 1 (.ptr 1 [] :: .ptr 2 [] :: .ptr 3 [] :: dd 1 (.pl (.int .i64) :: dd 37 (.pl .bool :: dd 14 []))))),[.box u256 (.pl u256),.box u256 (.pl u256),.box u256 (.pl u256),.box u256 (.pl u256)]⟩),([316],0,.tmpl ⟨(dd 3 (.ptr 0 [] :: dd 1 (.ptr 1 [] :: .ptr 2 [] :: .ptr 3 [] :: dd 1 (.pl (.int .i64) :: dd 52 [])))),[.box u256 (.pl u256),.box u256 (.pl u256),.box u256 (.pl u256),.box u256 (.pl u256)]⟩)]) ⟨ok314,ok352,ok353,trivial⟩ (by intro x; kernel_rfl)
noncomputable def muldiv_MulDivFloorC:Con:=⟨⟨[.pl u256,.pl u256,.pl u256],[]⟩,⟨[.pl u256,.pl (.int .i64)],[]⟩,muldiv_MulDivFloor K0⟩
theorem ok265:ConOk Tryz.prog 265 muldiv_MulDivFloorC:=mkOk (n:=265) (k:=60) (hs:=[(315,.con muldiv_MulC),(316,.con muldiv_Div512C)]) (A:=fun _ _=>none) ⟨ok315,ok316,trivial⟩ (by intro x; kernel_rfl)
noncomputable def bips_ScaleC:Con:=⟨⟨[.pl u256,.pl (.int .u64)],[]⟩,⟨[.pl u256,.pl (.int .i64)],[]⟩,bips_Scale K0⟩
theorem ok216:ConOk Tryz.prog 216 bips_ScaleC:=mkOk (n:=216) (k:=60) (hs:=[(93,.con uint256_FromUint64C),(265,.con muldiv_MulDivFloorC)]) (A:=fun _ _=>none) ⟨ok93,ok265,trivial⟩ (by intro x; kernel_rfl)
noncomputable def bips_ScaleExpC:Con:=⟨⟨[.pl u256,.pl (.int .u64),.pl (.int .i64)],[]⟩,⟨[.pl u256,.pl (.int .i64)],[]⟩,bips_ScaleExp K0⟩
theorem ok155:ConOk Tryz.prog 155 bips_ScaleExpC:=mkOk (n:=155) (k:=60) (hs:=[(215,.con bips_ExpC),(216,.con bips_ScaleC)]) (A:=fun _ _=>none) ⟨ok215,ok216,trivial⟩ (by intro x; kernel_rfl)
noncomputable def basefee_FeeC:Con:=⟨⟨[.pl (.int .u64),.pl Y_api_Params],[]⟩,⟨[.pl u256,.pl (.int .i64)],[]⟩,basefee_Fee K0⟩
theorem ok94:ConOk Tryz.prog 94 basefee_FeeC:=mkOk (n:=94) (k:=60) (hs:=[(154,.con basefee_ExponentC),(155,.con bips_ScaleExpC)]) (A:=fun _ _=>none) ⟨ok154,ok155,trivial⟩ (by intro x; kernel_rfl)
noncomputable def block_GenesisC:Con:=⟨⟨[.pl Y_api_Params],[]⟩,⟨[.pl Y_api_Block,.pl (.int .i64)],[]⟩,block_Genesis K0⟩
theorem ok50:ConOk Tryz.prog 50 block_GenesisC:=mkOk (n:=50) (k:=60) (hs:=[(94,.con basefee_FeeC)]) (A:=fun _ _=>none) ⟨ok94,trivial⟩ (by intro x; kernel_rfl)
noncomputable def pricer_GenesisC:Con:=⟨⟨[],[]⟩,⟨[.pl Y_api_Pricer],[]⟩,pricer_Genesis K0⟩
theorem ok51:ConOk Tryz.prog 51 pricer_GenesisC:=mkOk (n:=51) (k:=60) (hs:=[(93,.con uint256_FromUint64C)]) (A:=fun _ _=>none) ⟨ok93,trivial⟩ (by intro x; kernel_rfl)
noncomputable def ledger_NewC:Con:=⟨⟨[],[]⟩,⟨[.ptr 0 []],H_ledger_Ledger⟩,ledger_New K0⟩
theorem ok52:ConOk Tryz.prog 52 ledger_NewC:=mkOk (n:=52) (k:=140) (hs:=[]) (A:=fun _ _=>none) trivial (by intro x; kernel_rfl)
noncomputable def merkle_NewC:Con:=⟨⟨[],[]⟩,⟨[.ptr 0 []],H_merkle_Tree⟩,merkle_New K0⟩
theorem ok95:ConOk Tryz.prog 95 merkle_NewC:=mkOk (n:=95) (k:=140) (hs:=[]) (A:=fun _ _=>none) trivial (by intro x; kernel_rfl)
noncomputable def outbox_NewC:Con:=⟨⟨[],[]⟩,⟨[.ptr 0 []],H_outbox_Outbox⟩,outbox_New K0⟩
theorem ok53:ConOk Tryz.prog 53 outbox_NewC:=mkOk (n:=53) (k:=140) (hs:=[(95,.con merkle_NewC)]) (A:=fun _ _=>none) ⟨ok95,trivial⟩ (by intro x; kernel_rfl)
noncomputable def escrow_NewC:Con:=⟨⟨[],[]⟩,⟨[.ptr 0 []],H_escrow_Escrow⟩,escrow_New K0⟩
theorem ok54:ConOk Tryz.prog 54 escrow_NewC:=mkOk (n:=54) (k:=140) (hs:=[]) (A:=fun _ _=>none) trivial (by intro x; kernel_rfl)
noncomputable def executor_NewC:Con:=⟨⟨[],[]⟩,⟨[.ptr 0 []],H_executor_Machine⟩,executor_New K0⟩
theorem ok20:ConOk Tryz.prog 20 executor_NewC:=mkOk (n:=20) (k:=140) (hs:=[(49,.con params_GenesisC),(50,.con block_GenesisC),(51,.con pricer_GenesisC),(52,.con ledger_NewC),(53,.con outbox_NewC),(54,.con escrow_NewC)]) (A:=fun _ _=>none) ⟨ok49,ok50,ok51,ok52,ok53,ok54,trivial⟩ (by intro x; kernel_rfl)
noncomputable def slices_Clone___api_Account_api_Account_cC:Con:=⟨⟨[.pl (.sl Y_api_Account)],[]⟩,⟨[.whole 0],[.row Y_api_Account]⟩,slices_Clone___api_Account_api_Account_c K0⟩
theorem okc97:ConOk Tryz.prog 97 slices_Clone___api_Account_api_Account_cC:=mkOk (n:=97) (k:=60) (hs:=[]) (A:=fun _ _=>none) trivial (by intro x; exact Eq.trans (b:=slices_Clone___api_Account_api_Account_ K0 x) (by kernel_rfl) (slices_Clone___api_Account_api_Account_c_eq K0 x))
noncomputable def ledger_Ledger_AccountsC:Con:=⟨⟨[.bp Y_pontageref11_Ledger],[]⟩,⟨[.whole 0],[.row Y_api_Account]⟩,ledger_Ledger_Accounts K0⟩
theorem ok60:ConOk Tryz.prog 60 ledger_Ledger_AccountsC:=mkOk (n:=60) (k:=140) (hs:=[(97,.con slices_Clone___api_Account_api_Account_cC)]) (A:=fun _ _=>none) ⟨okc97,trivial⟩ (by intro x; kernel_rfl)
noncomputable def ledger_Ledger_VaultsC:Con:=⟨⟨[.bp Y_pontageref11_Ledger],[]⟩,⟨[.pl (.arr 4 u256)],[]⟩,ledger_Ledger_Vaults K0⟩
theorem ok61:ConOk Tryz.prog 61 ledger_Ledger_VaultsC:=mkOk (n:=61) (k:=140) (hs:=[]) (A:=fun _ _=>none) trivial (by intro x; kernel_rfl)
noncomputable def slices_Clone___api_Message_api_Message_cC:Con:=⟨⟨[.pl (.sl Y_api_Report)],[]⟩,⟨[.whole 0],[.row Y_api_Report]⟩,slices_Clone___api_Message_api_Message_c K0⟩
theorem okc98:ConOk Tryz.prog 98 slices_Clone___api_Message_api_Message_cC:=mkOk (n:=98) (k:=60) (hs:=[]) (A:=fun _ _=>none) trivial (by intro x; exact Eq.trans (b:=slices_Clone___api_Message_api_Message_ K0 x) (by kernel_rfl) (slices_Clone___api_Message_api_Message_c_eq K0 x))
noncomputable def outbox_Outbox_AllC:Con:=⟨⟨[.ptr 0 []],H_outbox_Outbox⟩,⟨[.whole 4],[.box Y_outbox_Outbox (.pair (.whole 2) (.pair (.ptr 1 []) (.pl .nil))),.box (.cons (.sl (.arr 32 (.int .u8))) .nil) (.pair (.whole 3) (.pl .nil)),.row Y_api_Report,.row (.arr 32 (.int .u8)),.row Y_api_Report]⟩,outbox_Outbox_All K0⟩
theorem ok62:ConOk Tryz.prog 62 outbox_Outbox_AllC:=mkOk (n:=62) (k:=140) (hs:=[(98,.con slices_Clone___api_Message_api_Message_cC)]) (A:=fun _ _=>none) ⟨okc98,trivial⟩ (by intro x; kernel_rfl)
noncomputable def escrow_Escrow_BalanceC:Con:=⟨⟨[.bp Y_escrow_Escrow],[]⟩,⟨[.pl u256],[]⟩,escrow_Escrow_Balance K0⟩
theorem ok63:ConOk Tryz.prog 63 escrow_Escrow_BalanceC:=mkOk (n:=63) (k:=140) (hs:=[]) (A:=fun _ _=>none) trivial (by intro x; kernel_rfl)
noncomputable def slices_Clone___api_Payment_api_Payment_cC:Con:=⟨⟨[.pl (.sl Y_api_Payment)],[]⟩,⟨[.whole 0],[.row Y_api_Payment]⟩,slices_Clone___api_Payment_api_Payment_c K0⟩
theorem okc99:ConOk Tryz.prog 99 slices_Clone___api_Payment_api_Payment_cC:=mkOk (n:=99) (k:=60) (hs:=[]) (A:=fun _ _=>none) trivial (by intro x; exact Eq.trans (b:=slices_Clone___api_Payment_api_Payment_ K0 x) (by kernel_rfl) (slices_Clone___api_Payment_api_Payment_c_eq K0 x))
noncomputable def escrow_Escrow_L1BalancesC:Con:=⟨⟨[.bp Y_escrow_Escrow],[]⟩,⟨[.whole 0],[.row Y_api_Payment]⟩,escrow_Escrow_L1Balances K0⟩
theorem ok64:ConOk Tryz.prog 64 escrow_Escrow_L1BalancesC:=mkOk (n:=64) (k:=140) (hs:=[(99,.con slices_Clone___api_Payment_api_Payment_cC)]) (A:=fun _ _=>none) ⟨okc99,trivial⟩ (by intro x; kernel_rfl)
noncomputable def slices_Clone___api_Poster_api_Poster_cC:Con:=⟨⟨[.pl (.sl Y_api_Poster)],[]⟩,⟨[.whole 0],[.row Y_api_Poster]⟩,slices_Clone___api_Poster_api_Poster_c K0⟩
theorem okc65:ConOk Tryz.prog 65 slices_Clone___api_Poster_api_Poster_cC:=mkOk (n:=65) (k:=60) (hs:=[]) (A:=fun _ _=>none) trivial (by intro x; exact Eq.trans (b:=slices_Clone___api_Poster_api_Poster_ K0 x) (by kernel_rfl) (slices_Clone___api_Poster_api_Poster_c_eq K0 x))
noncomputable def escrow_Escrow_SizeC:Con:=⟨⟨[.bp Y_escrow_Escrow],[]⟩,⟨[.pl (.int .i64)],[]⟩,escrow_Escrow_Size K0⟩
theorem ok100:ConOk Tryz.prog 100 escrow_Escrow_SizeC:=mkOk (n:=100) (k:=140) (hs:=[]) (A:=fun _ _=>none) trivial (by intro x; kernel_rfl)
noncomputable def escrow_Escrow_ClaimedC:Con:=⟨⟨[.bp Y_escrow_Escrow,.pl (.int .u64)],[]⟩,⟨[.pl .bool],[]⟩,escrow_Escrow_Claimed K0⟩
theorem ok66:ConOk Tryz.prog 66 escrow_Escrow_ClaimedC:=mkOk (n:=66) (k:=140) (hs:=[(100,.con escrow_Escrow_SizeC)]) (A:=fun _ _=>none) ⟨ok100,trivial⟩ (by intro x; kernel_rfl)
noncomputable def executor_Machine_StateC:Con:=⟨⟨[.ptr 0 []],H_executor_Machine⟩,⟨[.pair (.pl (.int .u64)) (.pair (.pl Y_api_Params) (.pair (.pl Y_api_Block) (.pair (.pl (.int .u64)) (.pair (.pair (.pl u256) (.pair (.pl (.int .u64)) (.pair (.pl (.int .u64)) (.pair (.pl (.int .u64)) (.pair (.pl Y_api_Int256) (.pair (.whole 11) (.pl .nil))))))) (.pair (.whole 12) (.pair (.pl (.arr 4 u256)) (.pair (.whole 13) (.pair (.whole 14) (.pair (.pl u256) (.pair (.whole 15) (.pl .nil)))))))))))],[.box Y_executor_Machine (.pair (.pl (.int .u64)) (.pair (.pl Y_api_Params) (.pair (.pl Y_api_Block) (.pair (.pl (.int .u64)) (.pair (.pl Y_api_Pricer) (.pair (.ptr 1 []) (.pair (.ptr 2 []) (.pair (.ptr 4 []) (.pl .nil))))))))),.box Y_pontageref11_Ledger (.pair (.whole 5) (.pl (.cons (.arr 4 u256) .nil))),.box Y_outbox_Outbox (.pair (.whole 6) (.pair (.ptr 3 []) (.pl .nil))),.box (.cons (.sl (.arr 32 (.int .u8))) .nil) (.pair (.whole 7) (.pl .nil)),.box Y_escrow_Escrow (.pair (.whole 8) (.pair (.whole 9) (.pair (.pl u256) (.pair (.whole 10) (.pl .nil))))),.row Y_api_Account,.row Y_api_Report,.row (.arr 32 (.int .u8)),.row (.arr 32 (.int .u8)),.row .bool,.row Y_api_Payment,.row Y_api_Poster,.row Y_api_Account,.row Y_api_Report,.row .bool,.row Y_api_Payment]⟩,executor_Machine_State K0⟩
theorem ok24:ConOk Tryz.prog 24 executor_Machine_StateC:=mkOk (n:=24) (k:=140) (hs:=[(60,.con ledger_Ledger_AccountsC),(61,.con ledger_Ledger_VaultsC),(62,.con outbox_Outbox_AllC),(63,.con escrow_Escrow_BalanceC),(64,.con escrow_Escrow_L1BalancesC),(65,.con slices_Clone___api_Poster_api_Poster_cC),(66,.con escrow_Escrow_ClaimedC)]) (A:=annL [([24],0,.tmpl ⟨(.ptr 0 [] :: dd 1 (.ptr 11 [] :: .ptr 17 [] :: dd 58 (.pl (.int .i64) :: .pl (.int .i64) :: dd 16 (.ptr 0 [] :: .ptr 1 [] :: .ptr 3 [] :: .ptr 5 [] :: .ptr 7 [] :: [])))),[.box Y_executor_Machine ((.pair (.pl (.int .u64)) ((.pair (.pl Y_api_Params) ((.pair (.pl Y_api_Block) ((.pair (.pl (.int .u64)) ((.pair (.pl Y_api_Pricer) ((.pair (.ptr 1 []) ((.pair (.ptr 3 []) ((.pair (.ptr 7 []) (.pl .nil))))))))))))))))),.box Y_pontageref11_Ledger ((.pair (.whole 2) (.pl (.cons (.arr 4 u256) .nil)))),.row Y_api_Account,.box Y_outbox_Outbox ((.pair (.whole 4) ((.pair (.ptr 5 []) (.pl .nil))))),.row Y_api_Report,.box (.cons (.sl (.arr 32 (.int .u8))) .nil) ((.pair (.whole 6) (.pl .nil))),.row (.arr 32 (.int .u8)),.box Y_escrow_Escrow ((.pair (.whole 8) ((.pair (.whole 9) ((.pair (.pl u256) ((.pair (.whole 10) (.pl .nil))))))))),.row (.arr 32 (.int .u8)),.row .bool,.row Y_api_Payment,.box Y_api_State ((.pair (.pl (.int .u64)) ((.pair (.pl Y_api_Params) ((.pair (.pl Y_api_Block) ((.pair (.pl (.int .u64)) ((.pair ((.pair (.pl u256) ((.pair (.pl (.int .u64)) ((.pair (.pl (.int .u64)) ((.pair (.pl (.int .u64)) ((.pair (.pl Y_api_Int256) ((.pair (.whole 12) (.pl .nil))))))))))))) ((.pair (.whole 13) ((.pair (.pl (.arr 4 u256)) ((.pair (.whole 14) ((.pair (.whole 15) ((.pair (.pl u256) ((.pair (.whole 16) (.pl .nil))))))))))))))))))))))),.row Y_api_Poster,.row Y_api_Account,.row Y_api_Report,.row .bool,.row Y_api_Payment,.box Y_api_State ((.pair (.pl (.int .u64)) ((.pair (.pl Y_api_Params) ((.pair (.pl Y_api_Block) ((.pair (.pl (.int .u64)) ((.pair ((.pair (.pl u256) ((.pair (.pl (.int .u64)) ((.pair (.pl (.int .u64)) ((.pair (.pl (.int .u64)) ((.pair (.pl Y_api_Int256) ((.pair (.whole 18) (.pl .nil))))))))))))) ((.pair (.whole 19) ((.pair (.pl (.arr 4 u256)) ((.pair (.whole 20) ((.pair (.whole 21) ((.pair (.pl u256) ((.pair (.whole 22) (.pl .nil))))))))))))))))))))))),.row Y_api_Poster,.row Y_api_Account,.row Y_api_Report,.row .bool,.row Y_api_Payment]⟩)]) ⟨ok60,ok61,ok62,ok63,ok64,okc65,ok66,trivial⟩ (by intro x; kernel_rfl)
noncomputable def pontagelaw29_awakeC:Con:=⟨⟨[],[]⟩,⟨[.pl .bool],[]⟩,pontagelaw29_awake K0⟩
theorem ok10:ConOk Tryz.prog 10 pontagelaw29_awakeC:=mkOk (n:=10) (k:=160) (hs:=[(13,.con script_DecodeC),(18,.inl),(20,.con executor_NewC),(24,.con executor_Machine_StateC),(48,.inl)]) (A:=fun p _=>match p with | 1000000 :: _=>none | 48 :: _=>some (.unroll 1) | _=>none) ⟨ok13,ok20,ok24,trivial⟩ (by intro x; kernel_rfl)
noncomputable def pontageref6_digitsC:Con:=⟨⟨[.pl u256],[]⟩,⟨[.pl (.sl (.int .u8))],[]⟩,pontageref6_digits K0⟩
theorem ok89:ConOk Tryz.prog 89 pontageref6_digitsC:=mkOk (n:=89) (k:=60) (hs:=[]) (A:=annL [([89],0,.tmpl ⟨(dd 1 (.ptr 0 [] :: dd 1 (.whole 1 :: .pl (.int .i64) :: dd 27 []))),[.box u256 (.pl u256),.row (.int .u8)]⟩)]) trivial (by intro x; kernel_rfl)
noncomputable def pontageref6_AppendUint256WC:Con:=⟨⟨[.pl (.sl (.int .u8)),.pl u256],[]⟩,⟨[.whole 0],[.row (.int .u8)]⟩,pontageref6_AppendUint256W K0⟩
theorem ok100044:ConOk Tryz.prog 44 pontageref6_AppendUint256WC:=mkOk (n:=44) (k:=60) (hs:=[(89,.con pontageref6_digitsC)]) (A:=fun _ _=>none) ⟨ok89,trivial⟩ (by intro x; kernel_rfl)
noncomputable def pontageref6_AppendUint64WC:Con:=⟨⟨[.pl (.sl (.int .u8)),.pl (.int .u64)],[]⟩,⟨[.whole 0],[.row (.int .u8)]⟩,pontageref6_AppendUint64W K0⟩
theorem ok100045:ConOk Tryz.prog 45 pontageref6_AppendUint64WC:=mkOk (n:=45) (k:=60) (hs:=[(44,.con pontageref6_AppendUint256WC)]) (A:=fun _ _=>none) ⟨ok100044,trivial⟩ (by intro x; kernel_rfl)
noncomputable def pontageref6_AppendBytesC:Con:=⟨⟨[.pl (.sl (.int .u8)),.pl (.sl (.int .u8))],[]⟩,⟨[.whole 0],[.row (.int .u8)]⟩,pontageref6_AppendBytes K0⟩
theorem ok32:ConOk Tryz.prog 32 pontageref6_AppendBytesC:=mkOk (n:=32) (k:=60) (hs:=[(45,.con pontageref6_AppendUint64WC)]) (A:=fun _ _=>none) ⟨ok100045,trivial⟩ (by intro x; kernel_rfl)
noncomputable def pontagelaw29_encodeC:Con:=⟨⟨[.pl (.sl (.sl (.int .u8)))],[]⟩,⟨[.whole 0],[.row (.int .u8)]⟩,pontagelaw29_encode K0⟩
theorem ok11:ConOk Tryz.prog 11 pontagelaw29_encodeC:=mkOk (n:=11) (k:=160) (hs:=[(32,.con pontageref6_AppendBytesC)]) (A:=annL [([11],0,.tmpl ⟨(.pl (.sl (.sl (.int .u8))) :: dd 2 (.whole 0 :: .pl (.int .i64) :: dd 13 [])),[.row (.int .u8)]⟩)]) ⟨ok32,trivial⟩ (by intro x; kernel_rfl)
noncomputable def pontagelaw0_EqualBytesC:Con:=⟨⟨[.pl (.sl (.int .u8)),.pl (.sl (.int .u8))],[]⟩,⟨[.pl .bool],[]⟩,pontagelaw0_EqualBytes K0⟩
theorem ok15:ConOk Tryz.prog 15 pontagelaw0_EqualBytesC:=mkOk (n:=15) (k:=160) (hs:=[]) (A:=fun _ _=>none) trivial (by intro x; kernel_rfl)
noncomputable def pontagelaw0_ModC:Con:=⟨⟨[.pl (.int .i64),.pl (.int .i64)],[]⟩,⟨[.pl (.int .i64)],[]⟩,pontagelaw0_Mod K0⟩
theorem ok12:ConOk Tryz.prog 12 pontagelaw0_ModC:=mkOk (n:=12) (k:=160) (hs:=[]) (A:=fun _ _=>none) trivial (by intro x; kernel_rfl)
noncomputable def pontageref6_takeC:Con:=⟨⟨[.pl (.sl (.int .u8)),.pl (.int .i64),.pl (.int .i64)],[]⟩,⟨[.pl u256,.pl (.int .i64),.pl (.int .i64)],[]⟩,pontageref6_take K0⟩
theorem ok118:ConOk Tryz.prog 118 pontageref6_takeC:=mkOk (n:=118) (k:=60) (hs:=[]) (A:=annL [([1000000,118],5,.join ⟨(.pl (.sl (.int .u8)) :: .pl (.int .i64) :: .pl (.int .i64) :: dd 3 (.ptr 0 [] :: dd 2 (.ptr 1 [] :: dd 94 []))),[.box u256 (.pl u256),.box u256 (.pl u256)]⟩),([1000000,118],7,.join ⟨(.pl (.sl (.int .u8)) :: .pl (.int .i64) :: dd 4 (.ptr 0 [] :: dd 2 (.ptr 1 [] :: dd 94 []))),[.box u256 (.pl u256),.box u256 (.pl u256)]⟩),([118],0,.tmpl ⟨(.pl (.sl (.int .u8)) :: .pl (.int .i64) :: dd 4 (.ptr 0 [] :: dd 2 (.ptr 1 [] :: .pl (.int .i64) :: .pl (.int .i64) :: dd 92 []))),[.box u256 (.pl u256),.box u256 (.pl u256)]⟩)]) trivial (by intro x; kernel_rfl)
noncomputable def pontageref6_ReadUint64C:Con:=⟨⟨[.pl (.sl (.int .u8)),.pl (.int .i64)],[]⟩,⟨[.pl (.int .u64),.pl (.int .i64),.pl (.int .i64)],[]⟩,pontageref6_ReadUint64 K0⟩
theorem ok80:ConOk Tryz.prog 80 pontageref6_ReadUint64C:=mkOk (n:=80) (k:=60) (hs:=[(118,.con pontageref6_takeC)]) (A:=fun _ _=>none) ⟨ok118,trivial⟩ (by intro x; kernel_rfl)
noncomputable def pontageref6_ReadBytesC:Con:=⟨⟨[.pl (.sl (.int .u8)),.pl (.int .i64)],[]⟩,⟨[.pl (.sl (.int .u8)),.pl (.int .i64),.pl (.int .i64)],[]⟩,pontageref6_ReadBytes K0⟩
theorem ok38:ConOk Tryz.prog 38 pontageref6_ReadBytesC:=mkOk (n:=38) (k:=60) (hs:=[(80,.con pontageref6_ReadUint64C)]) (A:=fun _ _=>none) ⟨ok80,trivial⟩ (by intro x; kernel_rfl)
noncomputable def pontagelaw29_decodableC:Con:=⟨⟨[.pl (.sl (.int .u8))],[]⟩,⟨[.pl .bool],[]⟩,pontagelaw29_decodable K0⟩
theorem ok14:ConOk Tryz.prog 14 pontagelaw29_decodableC:=mkOk (n:=14) (k:=160) (hs:=[(38,.con pontageref6_ReadBytesC)]) (A:=annL [([14],0,.tmpl ⟨(.pl (.sl (.int .u8)) :: dd 2 (.pl (.int .i64) :: dd 17 [])),[]⟩)]) ⟨ok38,trivial⟩ (by intro x; kernel_rfl)
noncomputable def pontagelaw29_ScriptDecodeC:Con:=⟨⟨[.pl (.sl (.int .u8)),.pl (.sl (.sl (.int .u8))),.pl (.int .i64),.pl (.int .u8)],[]⟩,⟨[.pl .bool],[]⟩,pontagelaw29_ScriptDecode K0⟩
theorem ok3:ConOk Tryz.prog 3 pontagelaw29_ScriptDecodeC:=mkOk (n:=3) (k:=160) (hs:=[(9,.con pontagelaw29_tooLargeC),(10,.con pontagelaw29_awakeC),(11,.con pontagelaw29_encodeC),(12,.con pontagelaw0_ModC),(13,.con script_DecodeC),(14,.con pontagelaw29_decodableC),(15,.con pontagelaw0_EqualBytesC)]) (A:=annL [([1000000,3],3,.join ⟨(.pl (.sl (.int .u8)) :: .pl (.sl (.sl (.int .u8))) :: .pl (.int .i64) :: .pl (.int .u8) :: dd 16 (.pl .bool :: dd 44 [])),[]⟩),([1000000,3],4,.join ⟨(.pl (.sl (.int .u8)) :: .pl (.sl (.sl (.int .u8))) :: .pl (.int .i64) :: .pl (.int .u8) :: dd 61 []),[]⟩),([1000000,3],7,.join ⟨(.pl (.sl (.int .u8)) :: dd 8 (.whole 0 :: dd 55 [])),[.row (.int .u8)]⟩),([3],0,.tmpl ⟨(dd 36 (.pl (.arr 2 (.sl (.int .u8))) :: .pl (.int .i64) :: dd 27 [])),[]⟩)]) ⟨ok9,ok10,ok11,ok12,ok13,ok14,ok15,trivial⟩ (by intro x; kernel_rfl)
end Sym

/- Rules for what a printed function computes. -/
namespace Sym
open Go
def Wp {R:Type} (T:R→Prop) (r:R):Prop:=T r
theorem Wp.brn {R:Type} {T:R→Prop} {c:Bool} {t f:R} (h1:c = true→Wp T t) (h2:c = false→Wp T f):Wp T (brn c t f):=by
  cases c
  · exact h2 rfl
  · exact h1 rfl
theorem Wp.brnT {R:Type} {T:R→Prop} {c:Bool} {t f:R} (hc:c = true) (h:Wp T t):Wp T (Sym.brn c t f):=by subst hc; exact h
theorem Wp.brnF {R:Type} {T:R→Prop} {c:Bool} {t f:R} (hc:c = false) (h:Wp T f):Wp T (Sym.brn c t f):=by subst hc; exact h
theorem Wp.optF {R Y:Type} {T:R→Prop} {fail:R} {o:Option Y} {k:Y→R} {y:Y} (ho:o = some y) (h:Wp T (k y)):Wp T (optF fail o k):=by subst ho; exact h
theorem Wp.jn {X R:Type} {T:R→Prop} {J:X→R} {f:(X→R)→R} (P:X→Prop) (h1:∀ x,P x→Wp T (J x)) (h2:∀ j:X→R,(∀ x,P x→Wp T (j x))→Wp T (f j)):Wp T (jn J f):=h2 J h1
def Rnd {X R:Type} (T:R→Prop) (Inv:X→Prop) (μ:X→Nat) (m:Nat) (s:Stp X R):Prop :=
  match s with
  | .again y=>Inv y∧μ y < m
  | .done r=>Wp T r
theorem Wp.again {X R:Type} {T:R→Prop} {Inv:X→Prop} {μ:X→Nat} {m:Nat} {y:X} (h1:Inv y) (h2:μ y < m):Wp (Rnd T Inv μ m) (.again y:Stp X R):=⟨h1,h2⟩
theorem Wp.done {X R:Type} {T:R→Prop} {Inv:X→Prop} {μ:X→Nat} {m:Nat} {r:R} (h:Wp T r):Wp (Rnd T Inv μ m) (.done r:Stp X R):=h
theorem Wp.iter {X R:Type} {T:R→Prop} {fail:R} {f:X→Stp X R} {x:X} (Inv:X→Prop) (μ:X→Nat) {k:Nat} (h:∀ x,Inv x→Wp (Rnd T Inv μ (μ x)) (f x)) (hi:Inv x) (hm:μ x < k):Wp T (iter fail f k x):=by
  induction k generalizing x with
  | zero=>omega
  | succ k ih =>
    have h1:=h x hi
    unfold Sym.iter
    cases hf:f x with
    | again y =>
      rw [hf] at h1
      exact ih h1.1 (Nat.lt_of_lt_of_le h1.2 (by omega))
    | done r =>
      rw [hf] at h1
      exact h1
theorem Wp.out {R:Type} {T:R→Prop} {r:R} (h:Wp T r):T r:=h
theorem I.of_val {k:IntKind} {n:Int} (h:k.min ≤ n∧n ≤ k.max):(I.of k n).val = n:=wrap_eq_of_range h
theorem of_u64 {n:Int} (h:0 ≤ n∧n < 18446744073709551616):(I.of .u64 n).val = n:=I.of_val ⟨by simp [IntKind.min,IntKind.signed]; omega,by simp [IntKind.max,IntKind.bits,IntKind.signed]; omega⟩
theorem of_i64 {n:Int} (h:-9223372036854775808 ≤ n∧n < 9223372036854775808):(I.of .i64 n).val = n:=I.of_val ⟨by simp [IntKind.min,IntKind.bits,IntKind.signed]; omega,by simp [IntKind.max,IntKind.bits,IntKind.signed]; omega⟩
theorem of_u8 {n:Int} (h:0 ≤ n∧n < 256):(I.of .u8 n).val = n:=I.of_val ⟨by simp [IntKind.min,IntKind.signed]; omega,by simp [IntKind.max,IntKind.bits,IntKind.signed]; omega⟩
theorem u64_range (x:I .u64):0 ≤ x.val∧x.val < 18446744073709551616:=I_range x
theorem i64_range (x:I .i64):-9223372036854775808 ≤ x.val∧x.val < 9223372036854775808:=by
  have h:=x.ok
  have h1:(2 ^ IntKind.i64.bits:Int) = 18446744073709551616:=by decide
  have h2:(2 ^ (IntKind.i64.bits - 1):Int) = 9223372036854775808:=by decide
  have h3:IntKind.i64.signed = true:=rfl
  simp only [IntKind.wrap,h1,h2,h3,Bool.true_and,decide_eq_true_eq] at h
  split at h <;> omega
theorem u8_range (x:I .u8):0 ≤ x.val∧x.val < 256:=by
  have h:=x.ok
  simp only [IntKind.wrap,IntKind.bits,IntKind.signed,Bool.false_and,Bool.false_eq_true,if_false] at h
  omega
theorem iff_ltb {k:IntKind} {a b:I k}:I.ltb a b = true ↔ a.val < b.val:=by simp [I.ltb]
theorem iff_leb {k:IntKind} {a b:I k}:I.leb a b = true ↔ a.val ≤ b.val:=by simp [I.leb]
theorem iff_eqb {k:IntKind} {a b:I k}:I.eqb a b = true ↔ a.val = b.val:=by simp [I.eqb]
theorem iff_neb {k:IntKind} {a b:I k}:I.neb a b = true ↔ a.val ≠ b.val:=by simp [I.neb]
theorem niff_ltb {k:IntKind} {a b:I k}:I.ltb a b = false ↔ b.val ≤ a.val:=by simp [I.ltb]
theorem niff_leb {k:IntKind} {a b:I k}:I.leb a b = false ↔ b.val < a.val:=by simp [I.leb]
theorem niff_eqb {k:IntKind} {a b:I k}:I.eqb a b = false ↔ a.val ≠ b.val:=by simp [I.eqb]
theorem niff_neb {k:IntKind} {a b:I k}:I.neb a b = false ↔ a.val = b.val:=by simp [I.neb]
theorem iff_nz {k:IntKind} {a:I k}:I.nz a = true ↔ a.val ≠ 0:=by simp [I.nz]
theorem iff_nn {k:IntKind} {a:I k}:I.nn a = true ↔ 0 ≤ a.val:=by simp [I.nn]
theorem iff_inB {k:IntKind} {a:I k} {n:Nat}:inB a n = true ↔ 0 ≤ a.val∧a.val < n:=by simp [inB]
theorem iff_fits {n:Nat}:fitsLen n = true ↔ n ≤ 1073741824:=by simp [fitsLen]
theorem I.eq_of {k:IntKind} {a b:I k} (h:I.eqb a b = true):a = b:=I.ext' (iff_eqb.1 h)
theorem ofNat_i64 {n:Nat} (h:n < 9223372036854775808):(I.ofNat .i64 n).val = n:=of_i64 ⟨by omega,by omega⟩
theorem add_i64 {a b:I .i64} (h:-9223372036854775808 ≤ a.val + b.val∧a.val + b.val < 9223372036854775808):(I.add a b).val = a.val + b.val:=of_i64 h
theorem sub_i64 {a b:I .i64} (h:-9223372036854775808 ≤ a.val - b.val∧a.val - b.val < 9223372036854775808):(I.sub a b).val = a.val - b.val:=of_i64 h
theorem mul_i64 {a b:I .i64} (h:-9223372036854775808 ≤ a.val * b.val∧a.val * b.val < 9223372036854775808):(I.mul a b).val = a.val * b.val:=of_i64 h
theorem rem_i64 {a b:I .i64} (h:0 ≤ a.val) (h2:0 < b.val):(I.rem a b).val = a.val % b.val:=by
  have ha:=i64_range a
  have hb:=i64_range b
  have e:a.val.tmod b.val = a.val % b.val:=Int.tmod_eq_emod_of_nonneg h
  have h3:=Int.emod_nonneg a.val (b:=b.val) (by omega)
  have h4:=Int.emod_lt_of_pos a.val h2
  unfold I.rem
  rw [e]
  exact of_i64 ⟨by omega,by omega⟩
theorem quo_i64 {a b:I .i64} (h:0 ≤ a.val) (h2:0 < b.val):(I.quo a b).val = a.val / b.val:=by
  have ha:=i64_range a
  have e:a.val.tdiv b.val = a.val / b.val:=Int.tdiv_eq_ediv_of_nonneg h
  have h3:0 ≤ a.val / b.val:=Int.ediv_nonneg h (by omega)
  have h4:a.val / b.val ≤ a.val:=Int.ediv_le_self _ h
  unfold I.quo
  rw [e]
  exact of_i64 ⟨by omega,by omega⟩
theorem add_u64 {a b:I .u64} (h:a.val + b.val < 18446744073709551616):(I.add a b).val = a.val + b.val:=of_u64 ⟨by have:=u64_range a; have:=u64_range b; omega,h⟩
theorem rem_u64 {a b:I .u64} (h2:b.val ≠ 0):(I.rem a b).val = a.val % b.val:=by
  have ha:=u64_range a
  have hb:=u64_range b
  have e:a.val.tmod b.val = a.val % b.val:=Int.tmod_eq_emod_of_nonneg ha.1
  have h3:=Int.emod_nonneg a.val (b:=b.val) (by omega)
  have h4:=Int.emod_lt_of_pos a.val (b:=b.val) (by omega)
  unfold I.rem
  rw [e]
  exact of_u64 ⟨by omega,by omega⟩
theorem nn_u64 (a:I .u64):I.nn a = true:=iff_nn.2 (u64_range a).1
end Sym

/- Natural numbers as ints; lists as rows. -/
namespace Sym
open Go
def i6 (n:Nat):I .i64:=I.of .i64 (n:Int)
theorem i6_val {n:Nat} (h:n < 9223372036854775808):(i6 n).val = n:=of_i64 ⟨by omega,by omega⟩
theorem i6_nat {n:Nat} (h:n < 9223372036854775808):I.nat (i6 n) = n:=by unfold I.nat; rw [i6_val h]; simp
theorem i6_add {n m:Nat} (h:n + m < 9223372036854775808):I.add (i6 n) (i6 m) = i6 (n + m):=by
  apply I.ext'
  rw [add_i64 (by rw [i6_val (by omega),i6_val (by omega)]; omega),i6_val (by omega),i6_val (by omega),i6_val h]
  omega
theorem i6_sub {n m:Nat} (h:n < 9223372036854775808) (hm:m ≤ n):I.sub (i6 n) (i6 m) = i6 (n - m):=by
  apply I.ext'
  rw [sub_i64 (by rw [i6_val (by omega),i6_val (by omega)]; omega),i6_val (by omega),i6_val (by omega),i6_val (by omega)]
  omega
theorem i6_ltb {n m:Nat} (hn:n < 9223372036854775808) (hm:m < 9223372036854775808):I.ltb (i6 n) (i6 m) = decide (n < m):=by
  simp only [I.ltb,i6_val hn,i6_val hm]
  by_cases h:n < m
  · rw [decide_eq_true h,decide_eq_true (by omega)]
  · rw [decide_eq_false h,decide_eq_false (by omega)]
theorem i6_inB {n m:Nat} (hn:n < m) (hm:n < 9223372036854775808):inB (i6 n) m = true:=iff_inB.2 (by rw [i6_val hm]; omega)
theorem i6_inB' {n m:Nat} (hn:n ≤ m) (hm:n < 9223372036854775808):inB' (i6 n) m = true:=by
  simp only [inB',Bool.and_eq_true,decide_eq_true_eq,i6_val hm]
  omega
theorem i6_ofNat (n:Nat):I.ofNat .i64 n = i6 n:=rfl
theorem i6_eqb {n m:Nat} (hn:n < 9223372036854775808) (hm:m < 9223372036854775808):I.eqb (i6 n) (i6 m) = decide (n = m):=by
  simp only [I.eqb,i6_val hn,i6_val hm]
  by_cases h:n = m
  · rw [decide_eq_true h,decide_eq_true (by omega)]
  · rw [decide_eq_false h,decide_eq_false (by omega)]
theorem i6_neb {n m:Nat} (hn:n < 9223372036854775808) (hm:m < 9223372036854775808):I.neb (i6 n) (i6 m) = decide (n ≠ m):=by
  have h:=i6_eqb hn hm
  by_cases e:n = m
  · rw [decide_eq_true e] at h; rw [decide_eq_false (by simpa using e)]; exact niff_neb.2 (iff_eqb.1 h)
  · rw [decide_eq_false e] at h; rw [decide_eq_true e]; exact iff_neb.2 (niff_eqb.1 h)
theorem rdL_eq {X:Type} (d:X):∀ (l:List X) (i:Nat) (h:i < l.length),rdL d l i = l[i]
  | x :: l,0,_=>rfl
  | x :: l,i + 1,h=>rdL_eq d l i (by simpa using h)
theorem rdL_out {X:Type} (d:X):∀ (l:List X) (i:Nat),l.length ≤ i→rdL d l i = d
  | [],_,_=>rfl
  | _ :: _,0,h=>by simp at h
  | _ :: l,i + 1,h=>rdL_out d l i (by simpa using h)
theorem setAt_eq {X:Type}:∀ (l:List X) (i:Nat) (v:X),setAt l i v = l.set i v
  | [],_,_=>rfl
  | _ :: _,0,_=>rfl
  | x :: l,i + 1,v=>by simp [setAt,setAt_eq l i v]
theorem subL_drop {X:Type} (s:List X) (n:Nat):subL s n (s.length - n) = s.drop n:=by
  simp only [subL]
  exact List.take_of_length_le (by simp)
theorem lenL_eq {X:Type} (l:List X):lenL l = l.length:=rfl
theorem fits_le {n:Nat} (h:n ≤ 1073741824):fitsLen n = true:=iff_fits.2 h
end Sym

/- Natural numbers by digits of 65536: what the reference's first functions compute. -/
namespace Sym
open Go
end Sym

/- Natural numbers by digits of 65536: from and to 256 bits, comparison. -/
namespace Sym
open Go
theorem fdiv_pos (a:Int) (n:Nat) (h:0 ≤ a):a.fdiv ((2:Int) ^ n) = a / (2:Int) ^ n:=by
  have h2:(0:Int) ≤ (2:Int) ^ n:=Int.le_of_lt (Int.pow_pos (by decide))
  rw [Int.fdiv_eq_ediv_of_nonneg _ h2]
end Sym

/- Natural numbers by digits of 65536: to 256 bits, comparison. -/
namespace Sym
open Go
def u64U (x:I .u64):U:=(x,I.of .u64 0,I.of .u64 0,I.of .u64 0,())
theorem u64U_val (x:I .u64):(u64U x).val = x.nat:=by
  unfold u64U U.val
  have:(I.of .u64 0).nat = 0:=rfl
  simp only [this]
  omega
end Sym

/- Natural numbers by digits of 65536: sums, differences, comparison. -/
namespace Sym
open Go
end Sym

/- Natural numbers by digits of 65536: differences, comparison. -/
namespace Sym
open Go
end Sym

/- Limbs of 256 bits; products of 64 bits. -/
namespace Sym
open Go
end Sym

/- Products of 256 bits. -/
namespace Sym
open Go
end Sym

/- Equality and order of 256 bits. -/
namespace Sym
open Go
end Sym

/- Quotients of 512 by 256 bits. -/
namespace Sym
open Go
theorem or_add (x y:I .u64) (n:Nat) (hy:y.nat < 2 ^ n) (hx:x.nat % 2 ^ n = 0):(I.or x y).nat = x.nat + y.nat:=by
  have h1:(BitVec.ofInt 64 x.val).toNat = x.nat:=by have:=u64_range x; rw [BitVec.toNat_ofInt]; unfold I.nat; omega
  have h2:(BitVec.ofInt 64 y.val).toNat = y.nat:=by have:=u64_range y; rw [BitVec.toNat_ofInt]; unfold I.nat; omega
  have h3:(BitVec.ofInt IntKind.u64.bits x.val ||| BitVec.ofInt IntKind.u64.bits y.val).toNat = x.nat ||| y.nat:=by
    show (BitVec.ofInt 64 x.val ||| BitVec.ofInt 64 y.val).toNat = _
    rw [BitVec.toNat_or,h1,h2]
  have hlt:x.nat ||| y.nat < 2 ^ 64:=Nat.or_lt_two_pow (nat_lt x) (nat_lt y)
  have h4:x.nat ||| y.nat = x.nat + y.nat:=by
    have e:x.nat = (x.nat / 2 ^ n) <<< n:=by
      rw [Nat.shiftLeft_eq]
      have:=Nat.div_add_mod x.nat (2 ^ n)
      rw [hx,Nat.add_zero,Nat.mul_comm] at this
      exact this.symm
    rw [e]
    exact (Nat.shiftLeft_add_eq_or_of_lt hy _).symm
  unfold I.or
  rw [h3,of_nat (by omega),h4]
end Sym

/- Quotients of 512 by 256 bits: the loop. -/
namespace Sym
open Go
end Sym

/- Quotients of 512 by 256 bits: what they are. -/
namespace Sym
open Go
end Sym

/- Signed numbers of 256 bits: what the program's functions compute, told of whole numbers. -/
namespace Sym
open Go
abbrev S:Type:=Bool × U × Unit
end Sym

/- Signed numbers of 256 bits: differences, products, quotients, order. -/
namespace Sym
open Go
end Sym

/- Signed numbers: what the reference's functions compute; two laws. -/
namespace Sym
open Go
end Sym

/- Signed numbers: the laws of order, negation and algebra. -/
namespace Sym
open Go
end Sym

/- Signed numbers: the law of algebra. -/
namespace Sym
open Go
end Sym

/- Natural numbers by digits of 65536: products, and quotients by one digit. -/
namespace Sym
open Go
end Sym

/- Signed numbers: the laws of arithmetic. -/
namespace Sym
open Go
theorem Mod_ok (x n:I .i64) (h:0 < n.val):∃ y:I .i64,pontagelaw0_Mod K0 ((x,n,()),()) = some ((y,()),())∧0 ≤ y.val∧y.val < n.val:=by
  have hn:=i64_range n
  have e:(I.conv .u64 n).val = n.val:=of_u64 ⟨by omega,by omega⟩
  have hx:=u64_range (I.conv .u64 x)
  have er:(I.rem (I.conv .u64 x) (I.conv .u64 n)).val = (I.conv .u64 x).val % n.val:=by rw [rem_u64 (by omega),e]
  have h3:=Int.emod_nonneg (I.conv .u64 x).val (b:=n.val) (by omega)
  have h4:=Int.emod_lt_of_pos (I.conv .u64 x).val (b:=n.val) (by omega)
  have ec:(I.conv .i64 (I.rem (I.conv .u64 x) (I.conv .u64 n))).val = (I.conv .u64 x).val % n.val:=by
    show (I.of .i64 _).val = _
    rw [er]
    exact of_i64 ⟨by omega,by omega⟩
  refine ⟨I.conv .i64 (I.rem (I.conv .u64 x) (I.conv .u64 n)),?_,by omega,by omega⟩
  refine Wp.out (T:=fun o=>o = _) ?_
  unfold pontagelaw0_Mod
  refine Wp.brnT (iff_nz.2 ?_) rfl
  show (I.conv .u64 n).val ≠ 0
  omega
end Sym

/- Natural numbers by digits of 65536: quotients. -/
namespace Sym
open Go
end Sym

/- Natural numbers by digits of 65536: the long division. -/
namespace Sym
open Go
end Sym

/- Signed numbers: the law of quotients. -/
namespace Sym
open Go
end Sym

/- Parameters: which are valid. -/
namespace Sym
open Go
end Sym

/- The price of a unit: what the program computes. -/
namespace Sym
open Go
end Sym

/- The price of a unit: the laws over valid parameters. -/
namespace Sym
open Go
end Sym

/- The price of a unit: unchanged, direction, damped. -/
namespace Sym
open Go
end Sym

/- The price of a unit: the reference computes the same. -/
namespace Sym
open Go
end Sym

/- The law of the gas price's bounds, of the plain functions. -/
namespace Sym
open Go
end Sym

/- The law of the charge's total. -/
namespace Sym
open Go
end Sym

/- Products of 512 bits and shares of them. -/
namespace Sym
open Go
end Sym

/- Binary heaps in lists. -/
namespace Sym
open Go
section
variable {α:Type} {lt:α→α→Bool} (d:α)
end
end Sym

/- The queue of debts: each function. -/
namespace Sym
open Go
end Sym

/- The queue of debts: Len, Peek, Pop. -/
namespace Sym
open Go
end Sym

/- The queue of debts: New, Order and the reference's order. -/
namespace Sym
open Go
end Sym

/- The queue of debts: the reference, comparisons of lists. -/
namespace Sym
open Go
end Sym

/- The laws of the queue of debts. -/
namespace Sym
open Go
end Sym

/- The laws of the queue of debts: complete, empty, any order of the list. -/
namespace Sym
open Go
end Sym

/- Tables of posters: which are valid, where one stands. -/
namespace Sym
open Go
end Sym

/- Tables of posters: both programs' Valid and Find. -/
namespace Sym
open Go
end Sym

/- Tables of posters: Settle, sums. -/
namespace Sym
open Go
end Sym

/- Payments: sums, both programs' plans. -/
namespace Sym
open Go
end Sym

/- Sums that stop at the top; numbers by shape. -/
namespace Sym
open Go
end Sym

/- Tables of posters: what is generated is well formed. -/
namespace Sym
open Go
end Sym

/- Tables of posters: what is generated is well formed: Accrue, the calls. -/
namespace Sym
open Go
end Sym

/- Payments: Apply, the laws that compare with the reference. -/
namespace Sym
open Go
end Sym

/- Payments: the law of sums and of Apply. -/
namespace Sym
open Go
end Sym

/- Payments: what a plan pays, and what the table is behind it. -/
namespace Sym
open Go
end Sym

/- Payments: a greater pool pays nobody less. -/
namespace Sym
open Go
end Sym

/- Payments: the oldest debts first. -/
namespace Sym
open Go
end Sym

/- Payments: the payments total the smaller of the pool and the debts. -/
namespace Sym
open Go
end Sym

/- The length of a number in bits. -/
namespace Sym
open Go
theorem shr_natL {l:IntKind} (x:I .u64) (s:I l) (h0:0 ≤ s.val) (hs:s.val < 64):(I.shr x s).nat = x.nat / 2 ^ s.val.toNat:=by
  have hx:=u64_range x
  have hm:min s.val.toNat IntKind.u64.bits = s.val.toNat:=by
    have:IntKind.u64.bits = 64:=rfl
    omega
  unfold I.shr
  rw [hm,fdiv_pos _ _ hx.1]
  have h1:((x.nat / 2 ^ s.val.toNat:Nat):Int) = x.val / (2:Int) ^ s.val.toNat:=by
    rw [Int.natCast_ediv,nat_val]
    simp
  rw [← h1]
  have:=Nat.div_le_self x.nat (2 ^ s.val.toNat)
  have:=nat_lt x
  exact of_nat (by omega)
end Sym

/- Pricer: the length of a number, who is found, shares of units. -/
namespace Sym
open Go
theorem Wp.jnI {X R:Type} {T:R→Prop} {J:X→R} {f:(X→R)→R} (h:Wp T (f J)):Wp T (Sym.jn J f):=h
end Sym

/- Numbers and byte strings as the wire has them: written, read, and read again. -/
namespace Sym
open Go
abbrev Byt:Type:=List (I .u8)
theorem u8_nat (x:I .u8):(I.nat x:Int) = x.val∧I.nat x < 256:=by
  have h:=u8_range x
  unfold I.nat
  omega
theorem of_u8n (n:Nat):I.nat (I.of .u8 (n:Int)) = n % 256:=by
  have h:(I.of .u8 (n:Int)).val = (n % 256:Nat):=by
    show IntKind.u8.wrap (n:Int) = _
    simp only [IntKind.wrap,IntKind.bits,IntKind.signed,Bool.false_and,Bool.false_eq_true,if_false]
    omega
  unfold I.nat
  omega
theorem u8_ext {a b:I .u8} (h:I.nat a = I.nat b):a = b:=by
  have ha:=(u8_nat a).1
  have hb:=(u8_nat b).1
  exact I.ext' (by omega)
theorem of_natu8 (x:I .u8):I.of .u8 ((I.nat x:Nat):Int) = x:=u8_ext (by rw [of_u8n]; exact Nat.mod_eq_of_lt (u8_nat x).2)
theorem snoc_ind {X:Type} {P:List X→Prop} (h0:P []) (h1:∀ l b,P l→P (l ++ [b])) (l:List X):P l:=by
  have key:∀ m:List X,P m.reverse:=by
    intro m
    induction m with
    | nil=>exact h0
    | cons b m ih=>rw [List.reverse_cons]; exact h1 _ _ ih
  have:=key l.reverse
  rwa [List.reverse_reverse] at this
def be:Nat→Nat→Byt
  | 0,_=>[]
  | k + 1,v=>I.of .u8 ((v / 256 ^ k:Nat):Int) :: be k v
def unbe (l:Byt):Nat:=l.foldl (fun n b=>n * 256 + I.nat b) 0
theorem be_len:∀ k v,(be k v).length = k
  | 0,_=>rfl
  | k + 1,v=>by show (be k v).length + 1 = _; rw [be_len k v]
theorem be_snoc:∀ k v,be (k + 1) v = be k (v / 256) ++ [I.of .u8 (v:Int)]
  | 0,v=>by show [I.of .u8 ((v / 256 ^ 0:Nat):Int)] = _; rw [Nat.pow_zero,Nat.div_one]; rfl
  | k + 1,v=>by
    show I.of .u8 ((v / 256 ^ (k + 1):Nat):Int) :: be (k + 1) v = (I.of .u8 ((v / 256 / 256 ^ k:Nat):Int) :: be k (v / 256)) ++ [I.of .u8 (v:Int)]
    rw [be_snoc k v,Nat.div_div_eq_div_mul,Nat.pow_succ,Nat.mul_comm 256 (256 ^ k)]
    rfl
theorem unbe_snoc (l:Byt) (b:I .u8):unbe (l ++ [b]) = unbe l * 256 + I.nat b:=by simp [unbe,List.foldl_append]
theorem unbe_lt (l:Byt):unbe l < 256 ^ l.length:=by
  refine snoc_ind (P:=fun l=>unbe l < 256 ^ l.length) (by decide) (fun l b ih=>?_) l
  · rw [unbe_snoc,List.length_append,List.length_singleton,Nat.pow_succ]
    have:=(u8_nat b).2
    omega
theorem be_unbe (l:Byt):be l.length (unbe l) = l:=by
  refine snoc_ind (P:=fun l=>be l.length (unbe l) = l) rfl (fun l b ih=>?_) l
  · have h:=(u8_nat b).2
    rw [List.length_append,List.length_singleton,be_snoc,unbe_snoc,show (unbe l * 256 + I.nat b) / 256 = unbe l by omega,ih]
    congr 2
    apply u8_ext
    rw [of_u8n]
    omega
theorem unbe_cons (b:I .u8) (l:Byt):unbe (b :: l) = I.nat b * 256 ^ l.length + unbe l:=by
  refine snoc_ind (P:=fun l=>unbe (b :: l) = I.nat b * 256 ^ l.length + unbe l) (by simp [unbe]) (fun l c ih=>?_) l
  · rw [← List.cons_append,unbe_snoc,ih,unbe_snoc,List.length_append,List.length_singleton,Nat.pow_succ,Nat.add_mul,Nat.mul_assoc,Nat.add_assoc]
def nby (v:Nat):Nat:=if v = 0 then 0 else v.log2 / 8 + 1
theorem p256 (k:Nat):256 ^ k = 2 ^ (8 * k):=by rw [Nat.pow_mul]
theorem nby_lt (v:Nat):v < 256 ^ nby v:=by
  unfold nby
  by_cases h:v = 0
  · rw [if_pos h,h]; decide
  · rw [if_neg h,p256]
    exact Nat.lt_of_lt_of_le Nat.lt_log2_self (Nat.pow_le_pow_right (by decide) (by omega))
theorem nby_le {v:Nat} (h:v ≠ 0):256 ^ (nby v - 1) ≤ v:=by
  unfold nby
  rw [if_neg h,p256]
  exact Nat.le_trans (Nat.pow_le_pow_right (by decide) (by omega)) (Nat.log2_self_le h)
theorem nby_le_of {v k:Nat} (h:v < 256 ^ k):nby v ≤ k:=by
  by_cases hv:v = 0
  · rw [hv]; exact Nat.zero_le _
  · have h1:=nby_le hv
    have h2:256 ^ (nby v - 1) < 256 ^ k:=Nat.lt_of_le_of_lt h1 h
    have:=(Nat.pow_lt_pow_iff_right (by decide)).1 h2
    omega
theorem nby_eq {v k:Nat} (h1:256 ^ k ≤ v) (h2:v < 256 ^ (k + 1)):nby v = k + 1:=by
  have h3:=nby_le_of h2
  have h4:=nby_lt v
  have h5:256 ^ k < 256 ^ nby v:=Nat.lt_of_le_of_lt h1 h4
  have:=(Nat.pow_lt_pow_iff_right (by decide)).1 h5
  omega
def encV (v:Nat):Byt:=I.of .u8 ((nby v:Nat):Int) :: be (nby v) v
def encB (x:Byt):Byt:=encV x.length ++ x
def encA:List Byt→Byt
  | []=>[]
  | x :: l=>encB x ++ encA l
theorem encA_app (l m:List Byt):encA (l ++ m) = encA l ++ encA m:=by
  induction l with
  | nil=>rfl
  | cons x l ih=>show encB x ++ encA (l ++ m) = (encB x ++ encA l) ++ encA m; rw [ih,List.append_assoc]
theorem encV_len (v:Nat):(encV v).length = nby v + 1:=by show (be _ v).length + 1 = _; rw [be_len]
def atB (b:Byt) (i:Nat):Nat:=I.nat (rdL (I.of .u8 0) b i)
def rdU (b:Byt) (i m:Nat):Option (Nat × Nat) :=
  if i < b.length∧atB b i ≤ m∧atB b i ≤ b.length - i - 1∧(atB b i = 0 ∨ atB b (i + 1) ≠ 0) then some (unbe (subL b (i + 1) (atB b i)),i + 1 + atB b i) else none
def rdB (b:Byt) (i:Nat):Option (Byt × Nat) :=
  match rdU b i 8 with
  | none=>none
  | some (n,j)=>if n ≤ b.length - j then some (subL b j n,j + n) else none
theorem rdU_some {b:Byt} {i m n j:Nat} (h:rdU b i m = some (n,j)):i < j∧j ≤ b.length∧subL b i (j - i) = encV n∧n < 256 ^ m:=by
  unfold rdU at h
  split at h
  case isFalse=>cases h
  case isTrue hc =>
    obtain ⟨h1,h2,h3,h4⟩:=hc
    simp only [Option.some.injEq,Prod.mk.injEq] at h
    obtain ⟨e1,e2⟩:=h
    have hl:(subL b (i + 1) (atB b i)).length = atB b i:=by simp only [subL,List.length_take,List.length_drop]; omega
    have hlt:=unbe_lt (subL b (i + 1) (atB b i))
    rw [hl,e1] at hlt
    refine ⟨by omega,by omega,?_,Nat.lt_of_lt_of_le hlt (Nat.pow_le_pow_right (by decide) h2)⟩
    have hs:subL b i (j - i) = rdL (I.of .u8 0) b i :: subL b (i + 1) (atB b i):=by
      rw [rdL_eq _ _ _ h1,← e2,show i + 1 + atB b i - i = atB b i + 1 by omega]
      simp only [subL]
      rw [List.drop_eq_getElem_cons h1,List.take_succ_cons]
    have hn:nby n = atB b i:=by
      rcases Nat.eq_zero_or_pos (atB b i) with h0 | h0
      · rw [h0] at hlt ⊢
        have:n = 0:=by rw [Nat.pow_zero] at hlt; omega
        rw [this]; rfl
      · obtain ⟨k,hk⟩:∃ k,atB b i = k + 1:=⟨atB b i - 1,by omega⟩
        rw [hk] at hlt ⊢
        refine nby_eq ?_ hlt
        have h4 : atB b (i + 1) ≠ 0 := by rcases h4 with h4 | h4; · omega
                                          · exact h4
        have hq:subL b (i + 1) (atB b i) = rdL (I.of .u8 0) b (i + 1) :: subL b (i + 1 + 1) k:=by
          rw [rdL_eq _ _ _ (by omega),hk]
          simp only [subL]
          rw [List.drop_eq_getElem_cons (by omega),List.take_succ_cons]
        rw [hq,unbe_cons] at e1
        have hk2:(subL b (i + 1 + 1) k).length = k:=by simp only [subL,List.length_take,List.length_drop]; omega
        rw [hk2] at e1
        have:1 * 256 ^ k ≤ atB b (i + 1) * 256 ^ k:=Nat.mul_le_mul_right _ (by omega)
        unfold atB at this
        omega
    rw [hs]
    show _ = I.of .u8 ((nby n:Nat):Int) :: be (nby n) n
    rw [hn]
    congr 1
    · exact (of_natu8 _).symm
    · have:=be_unbe (subL b (i + 1) (atB b i))
      rw [hl,e1] at this
      exact this.symm
theorem encB_len (x:Byt):(encB x).length = nby x.length + 1 + x.length:=by unfold encB; rw [List.length_append,encV_len]
theorem subL_split (b:Byt) (i m n:Nat):subL b i (m + n) = subL b i m ++ subL b (i + m) n:=by
  simp only [subL]
  rw [List.take_add,List.drop_drop]
theorem rdB_some {b:Byt} {i j:Nat} {x:Byt} (h:rdB b i = some (x,j)):i < j∧j ≤ b.length∧subL b i (j - i) = encB x:=by
  unfold rdB at h
  split at h
  · cases h
  · rename_i n k hu
    obtain ⟨h1,h2,h3,_⟩:=rdU_some hu
    split at h
    case isFalse=>cases h
    case isTrue hc =>
      simp only [Option.some.injEq,Prod.mk.injEq] at h
      obtain ⟨e1,e2⟩:=h
      refine ⟨by omega,by omega,?_⟩
      have hx:x.length = n:=by rw [← e1]; simp only [subL,List.length_take,List.length_drop]; omega
      rw [← e2,show k + n - i = (k - i) + n by omega,subL_split,show i + (k - i) = k by omega,h3,e1]
      unfold encB
      rw [hx]
def rdA:Nat→Byt→Nat→Option (List Byt)
  | 0,b,i=>if i = b.length then some [] else none
  | f + 1,b,i=>if i = b.length then some [] else match rdB b i with
    | none=>none
    | some (x,j)=>(rdA f b j).map (x :: ·)
theorem rdA_some:∀ (f:Nat) (b:Byt) (i:Nat) (l:List Byt),rdA f b i = some l→i ≤ b.length→b.drop i = encA l
  | 0,b,i,l,h,hi=>by
    unfold rdA at h
    split at h
    · cases h; exact List.drop_eq_nil_of_le (by omega)
    · cases h
  | f + 1,b,i,l,h,hi=>by
    unfold rdA at h
    split at h
    · cases h; exact List.drop_eq_nil_of_le (by omega)
    · split at h
      · cases h
      · rename_i x j hb
        obtain ⟨h1,h2,h3⟩:=rdB_some hb
        cases hd:rdA f b j with
        | none=>rw [hd] at h; cases h
        | some m =>
          rw [hd] at h
          cases h
          show _ = encB x ++ encA m
          rw [← h3,← rdA_some f b j m hd h2]
          simp only [subL]
          rw [show b.drop j = (b.drop i).drop (j - i) by rw [List.drop_drop]; congr 1; omega,List.take_append_drop]
end Sym

/- The law of the gas price's bounds: bytes, numbers, the law. -/
namespace Sym
open Go
end Sym

/- What is built of numbers; for the law of the gas price's bounds. -/
namespace Sym
open Go
end Sym

/- The law of the gas price and of cover. -/
namespace Sym
open Go
end Sym

/- What the fees rest on. -/

/- The compression: what both programs compute. -/
namespace Sym
open Go
end Sym

/- The compression: both programs answer alike. -/
namespace Sym
open Go
end Sym

/- The compression of the reference. -/
namespace Sym
open Go
end Sym

/- The fees: units of data, gas, the shares. -/
namespace Sym
open Go
end Sym

/- Audit: what a transaction took from its sender. -/
namespace Sym
open Go
end Sym

/- Pricer: what its functions compute. -/
namespace Sym
open Go
end Sym

/- Pricer: a report. -/
namespace Sym
open Go
end Sym

/- Pricer: a report as a whole. -/
namespace Sym
open Go
end Sym

/- Pricer: posters and units added. -/
namespace Sym
open Go
end Sym

/- Pricer: what an accepted report has done. -/
namespace Sym
open Go
end Sym

/- Pricer: the reference's parts. -/
namespace Sym
open Go
end Sym

/- Pricer: the reference computes the same. -/
namespace Sym
open Go
end Sym

/- Pricer: the reference's report. -/
namespace Sym
open Go
end Sym

/- The machine of the reference: numbers that need not fit, the ledger. -/
namespace Sym
open Go
end Sym

/- The ledger of the reference. -/
namespace Sym
open Go
end Sym

/- The ledger of the reference: payments, the supply. -/
namespace Sym
open Go
end Sym

/- The ledger of the reference: its methods. -/
namespace Sym
open Go
end Sym

/- The fees: the whole charge; both programs answer alike. -/
namespace Sym
open Go
end Sym

/- The fees: what is built, what a charge without an error is. -/
namespace Sym
open Go
end Sym

/- The laws of the fees. -/
namespace Sym
open Go
end Sym

/- The base fee of the reference, blocks, parameters. -/
namespace Sym
open Go
end Sym

/- The exponential, the base fee, blocks. -/
namespace Sym
open Go
end Sym

/- Hashes and trees of the reference: they end. -/
namespace Sym
open Go
end Sym

/- Hashes and trees of the reference: they end, continued. -/
namespace Sym
open Go
theorem appL_len {X:Type} (a b:List X):(appL a b).length = a.length + b.length:=List.length_append
theorem fitsA {X:Type} (a b:List X) (h:a.length + b.length ≤ 1073741824):fitsLen (lenL (appL a b)) = true:=fits_le (by show (appL a b).length ≤ _; rw [appL_len]; exact h)
theorem rem_i6 {n m:Nat} (hn:n < 9223372036854775808) (hm:0 < m) (hm2:m < 9223372036854775808):I.rem (i6 n) (i6 m) = i6 (n % m):=by
  apply I.ext'
  rw [rem_i64 (by rw [i6_val hn]; omega) (by rw [i6_val hm2]; omega),i6_val hn,i6_val hm2,i6_val (Nat.lt_of_lt_of_le (Nat.mod_lt _ hm) (by omega))]
  omega
theorem quo_i6 {n m:Nat} (hn:n < 9223372036854775808) (hm:0 < m) (hm2:m < 9223372036854775808):I.quo (i6 n) (i6 m) = i6 (n / m):=by
  apply I.ext'
  rw [quo_i64 (by rw [i6_val hn]; omega) (by rw [i6_val hm2]; omega),i6_val hn,i6_val hm2,i6_val (Nat.lt_of_le_of_lt (Nat.div_le_self _ _) hn)]
  omega
end Sym

/- What the wire's functions write, both programs'. -/
namespace Sym
open Go
theorem mul_i6 {n m:Nat} (h:n * m < 9223372036854775808) (hn:n < 9223372036854775808) (hm:m < 9223372036854775808):I.mul (i6 n) (i6 m) = i6 (n * m):=by
  apply I.ext'
  rw [mul_i64 (by rw [i6_val hn,i6_val hm,← Int.natCast_mul]; omega),i6_val hn,i6_val hm,i6_val h,Int.natCast_mul]
theorem sel_nat (a:U) (q:Nat) (hq:q < 4):(Arr.sel (I.of .u64 0) 4 a q).nat = a.val / 18446744073709551616 ^ q % 18446744073709551616:=by
  obtain ⟨z0,z1,z2,z3,⟨⟩⟩:=a
  have:=nat_lt z0
  have:=nat_lt z1
  have:=nat_lt z2
  have:=nat_lt z3
  match q,hq with
  | 0,_=>show z0.nat = _; simp only [U.val,Nat.reducePow]; omega
  | 1,_=>show z1.nat = _; simp only [U.val,Nat.reducePow]; omega
  | 2,_=>show z2.nat = _; simp only [U.val,Nat.reducePow]; omega
  | 3,_=>show z3.nat = _; simp only [U.val,Nat.reducePow]; omega
theorem p64 (q:Nat):(18446744073709551616:Nat) ^ q = 256 ^ (8 * q):=by rw [Nat.pow_mul]
theorem byte_u (a : U) (i : Nat) (hi : i < 32) {l : IntKind} (s : I l) (hs : s.val = ((8 * (i % 8) : Nat) : Int)) :
    I.conv (k:=.u64) .u8 (I.shr (Arr.sel (I.of .u64 0) 4 a (i / 8)) s) = I.of .u8 ((a.val / 256 ^ i:Nat):Int):=by
  apply u8_ext
  have h1:=shr_natL (Arr.sel (I.of .u64 0) 4 a (i / 8)) s (by omega) (by omega)
  have h2:=nat_val (I.shr (Arr.sel (I.of .u64 0) 4 a (i / 8)) s)
  show I.nat (I.of .u8 (I.shr (Arr.sel (I.of .u64 0) 4 a (i / 8)) s).val) = _
  have hsn:s.val.toNat = 8 * (i % 8):=by omega
  rw [← h2,of_u8n,of_u8n,h1,sel_nat a (i / 8) (by omega),hsn,p64,← p256]
  have e:(18446744073709551616:Nat) = 256 ^ (i % 8) * 256 ^ (8 - i % 8):=by
    rw [← Nat.pow_add,show i % 8 + (8 - i % 8) = 8 by omega]
  rw [e,Nat.mod_mul_right_div_self,Nat.div_div_eq_div_mul,← Nat.pow_add,show 8 * (i / 8) + i % 8 = i by omega]
  exact Nat.mod_mod_of_dvd _ ⟨256 ^ (7 - i % 8),by rw [← Nat.pow_succ',show 8 - i % 8 = (7 - i % 8) + 1 by omega]⟩
theorem nby_U (a:U):nby a.val ≤ 32:=nby_le_of (U.lt a)
theorem digits_eq (n:U):pontageref6_digits K0 ((n,()),()) = some ((be (nby n.val) n.val,()),()):=by
  refine Wp.out (T:=fun o=>o = some ((be (nby n.val) n.val,()),())) ?_
  unfold pontageref6_digits
  have h32:=nby_U n
  have e8:I.of .i64 8 = i6 8:=rfl
  have e0:I.of .i64 0 = i6 0:=rfl
  have e1:(I.of .i64 1).val = 1:=rfl
  refine Wp.iter (fun x=>∃ j:Nat,j ≤ 32∧x.1.1.val = (j:Int) - 1∧x.2.1 = n∧((x.2.2.1 = []∧n.val < 256 ^ j) ∨ (x.2.2.1 ≠ []∧x.2.2.1 ++ be j n.val = be (nby n.val) n.val))) (fun x=>(x.1.1.val + 1).toNat) ?_ ⟨32,Nat.le_refl _,rfl,rfl,.inl ⟨rfl,U.lt n⟩⟩
    (by rw [K0_eq]; show ((I.of .i64 31).val + 1).toNat < _; decide)
  rintro ⟨⟨i,⟨⟩⟩,m,l,⟨⟩⟩ ⟨j,hj,hi,hm,hl⟩
  simp only at hi hm hl
  subst hm
  have hll:l.length ≤ 32:=by
    rcases hl with ⟨rfl,_⟩ | ⟨_,hl⟩
    · exact Nat.zero_le _
    · have:=congrArg List.length hl; rw [List.length_append,be_len,be_len] at this; omega
  refine Wp.brn (fun hc=>?_) (fun hc=>?_)
  · have hc:0 ≤ i.val:=iff_leb.1 hc
    obtain ⟨q,rfl⟩:∃ q,j = q + 1:=⟨j - 1,by omega⟩
    have hiq:i = i6 q:=I.ext' (by rw [i6_val (by omega)]; omega)
    subst hiq
    have hq8:8 * (q % 8) < 9223372036854775808:=by omega
    have hcv:(I.conv (k:=.i64) .u64 (i6 (8 * (q % 8)))).val = ((8 * (q % 8):Nat):Int):=by
      show (I.of .u64 (i6 (8 * (q % 8))).val).val = _
      rw [i6_val hq8,of_u64 (by omega)]
    simp only [e8,quo_i6 (show q < 9223372036854775808 by omega) (show 0 < 8 by omega) (by omega),rem_i6 (show q < 9223372036854775808 by omega) (show 0 < 8 by omega) (by omega),mul_i6 hq8 (by omega) (by omega),i6_nat (show q / 8 < 9223372036854775808 by omega),byte_u m q (by omega) _ hcv,lenL_eq,i6_ofNat,e0,i6_ltb (show 0 < 9223372036854775808 by omega) (show l.length < 9223372036854775808 by omega)]
    have hsub:(I.sub (i6 q) (I.of .i64 1)).val = (q:Int) - 1:=by rw [sub_i64 (by rw [e1,i6_val (by omega)]; omega),i6_val (by omega)]; rfl
    have hμ:((I.sub (i6 q) (I.of .i64 1)).val + 1).toNat < ((i6 q).val + 1).toNat:=by rw [hsub,i6_val (by omega)]; omega
    have hp:0 < 256 ^ q:=Nat.pow_pos (by decide)
    refine Wp.brnT (i6_inB (by omega) (by omega)) (Wp.brnT (nn_u64 _) (Wp.brn (fun h0=>?_) (fun h0=>?_)))
    · have h0:=of_decide_eq_true h0
      refine Wp.brnT (fitsA _ _ (by show l.length + 1 ≤ _; omega)) (Wp.again ⟨q,by omega,hsub,rfl,.inr ⟨by simp,?_⟩⟩ hμ)
      rcases hl with ⟨rfl,_⟩ | ⟨_,hl⟩
      · exact absurd h0 (by decide)
      · show (l ++ [_]) ++ be q m.val = _
        rw [List.append_assoc]
        exact hl
    · have h0:=of_decide_eq_false h0
      have hln:l = []:=List.eq_nil_of_length_eq_zero (by omega)
      subst hln
      rcases hl with ⟨_,hl⟩ | ⟨hl,_⟩
      case inr=>exact absurd rfl hl
      have hd:m.val / 256 ^ q < 256:=Nat.div_lt_of_lt_mul (by rw [Nat.pow_succ] at hl; exact hl)
      have hbv:(I.of .u8 ((m.val / 256 ^ q:Nat):Int)).val = ((m.val / 256 ^ q:Nat):Int):=of_u8 ⟨Int.natCast_nonneg _,Int.ofNat_lt.2 hd⟩
      refine Wp.brn (fun h1=>?_) (fun h1=>?_)
      · have h1:(0:Int) < (I.of .u8 ((m.val / 256 ^ q:Nat):Int)).val:=iff_ltb.1 h1
        rw [hbv] at h1
        refine Wp.brnT (fitsA _ _ (by show 0 + 1 ≤ _; omega)) (Wp.again ⟨q,by omega,hsub,rfl,.inr ⟨by simp,?_⟩⟩ hμ)
        have hnb:nby m.val = q + 1:=nby_eq (by
          have:=Nat.div_mul_le_self m.val (256 ^ q)
          have:1 * 256 ^ q ≤ m.val / 256 ^ q * 256 ^ q:=Nat.mul_le_mul_right _ (by omega)
          omega) hl
        rw [hnb]
        rfl
      · have h1:(I.of .u8 ((m.val / 256 ^ q:Nat):Int)).val ≤ 0:=niff_ltb.1 h1
        rw [hbv] at h1
        refine Wp.again ⟨q,by omega,hsub,rfl,.inl ⟨rfl,?_⟩⟩ hμ
        have h2:m.val / 256 ^ q = 0:=Nat.le_zero.1 (Int.ofNat_le.1 h1)
        rcases Nat.div_eq_zero_iff.1 h2 with h3 | h3
        · omega
        · exact h3
  · have hc:i.val < 0:=niff_leb.1 hc
    have hj0:j = 0:=by omega
    subst hj0
    refine Wp.done ?_
    show some ((l,()),()) = some ((be (nby m.val) m.val,()),())
    rcases hl with ⟨rfl,hl⟩ | ⟨_,hl⟩
    · have:m.val = 0:=by rw [Nat.pow_zero] at hl; omega
      rw [this]; rfl
    · rw [← hl]
      show _ = some ((l ++ [],()),())
      rw [List.append_nil]
end Sym

/- Byte strings behind one another, both programs'; byte strings held against one another. -/
namespace Sym
open Go
theorem sEq_iff:∀ x y:Byt,strEq x y = true ↔ x = y
  | [],[]=>by simp [strEq]
  | [],_ :: _=>by simp [strEq]
  | _ :: _,[]=>by simp [strEq]
  | a :: x,b :: y=>by
    simp only [strEq,Bool.and_eq_true,sEq_iff x y,List.cons.injEq]
    exact ⟨fun h=>⟨I.eq_of h.1,h.2⟩,fun h=>⟨by rw [h.1]; exact iff_eqb.2 rfl,h.2⟩⟩
theorem eqB_true {x y:Byt} (h:x = y):pontagelaw0_EqualBytes K0 ((x,(y,())),()) = some ((true,()),()):=by
  show some ((strEq x y,()),()) = _
  rw [(sEq_iff x y).2 h]
theorem some_row {x y:Byt} (h:x = y):(some ((),(x,())):Option (Unit × (Byt × Unit))) = some ((),(y,())):=by rw [h]
theorem encV_le (v:Nat) (h:v < U.top):(encV v).length ≤ 33:=by
  rw [encV_len]
  have:nby v ≤ 32:=nby_le_of h
  omega
theorem len_u64 (b:Byt) (h:b.length ≤ 1073741824):(I.conv (k:=.i64) .u64 (I.ofNat .i64 (lenL b))).nat = b.length:=by
  show (I.of .u64 (I.ofNat .i64 b.length).val).nat = _
  rw [ofNat_i64 (by omega),of_nat (by omega)]
theorem rU256W (b:Byt) (n:U) (h:b.length ≤ 1073741000):pontageref6_AppendUint256W K0 ((b,(n,())),()) = some ((),(b ++ encV n.val,())):=by
  refine Wp.out (T:=fun o=>o = some ((),(b ++ encV n.val,()))) ?_
  unfold pontageref6_AppendUint256W
  have hn:=nby_U n
  refine Wp.optF (digits_eq n) (Wp.brnT (fitsA _ _ (by show 0 + b.length ≤ _; omega)) (Wp.brnT (fitsA _ _ (by show (b.length + 1:Nat) ≤ _; omega)) (Wp.brnT (fitsA _ _ ?_) ?_)))
  · simp only [appL,List.nil_append,List.length_append,List.length_singleton,be_len]
    omega
  · show some ((),((([] ++ b) ++ [I.conv (k:=.i64) .u8 (I.ofNat .i64 (lenL (be (nby n.val) n.val)))]) ++ be (nby n.val) n.val,())) = _
    have:I.conv (k:=.i64) .u8 (I.ofNat .i64 (lenL (be (nby n.val) n.val))) = I.of .u8 ((nby n.val:Nat):Int):=by
      show I.of .u8 (I.ofNat .i64 (be (nby n.val) n.val).length).val = _
      rw [be_len,ofNat_i64 (by omega)]
    rw [this]
    have e:((([]:Byt) ++ b) ++ [I.of .u8 ((nby n.val:Nat):Int)]) ++ be (nby n.val) n.val = b ++ encV n.val:=by rw [List.nil_append,List.append_assoc]; rfl
    exact some_row e
theorem rU64W (b:Byt) (n:I .u64) (h:b.length ≤ 1073741000):pontageref6_AppendUint64W K0 ((b,(n,())),()) = some ((),(b ++ encV n.nat,())):=by
  refine Wp.out (T:=fun o=>o = some ((),(b ++ encV n.nat,()))) ?_
  unfold pontageref6_AppendUint64W
  have hu:=u64U_val n
  refine Wp.optF (rU256W b (u64U n) h) ?_
  exact some_row (by rw [hu])
theorem rBytes (b x:Byt) (h:b.length + x.length ≤ 1073741000):pontageref6_AppendBytes K0 ((b,(x,())),()) = some ((),(b ++ encB x,())):=by
  refine Wp.out (T:=fun o=>o = some ((),(b ++ encB x,()))) ?_
  unfold pontageref6_AppendBytes
  refine Wp.optF (rU64W b _ (by omega)) ?_
  rw [len_u64 x (by omega)]
  have hn:=encV_le x.length (by simp only [U.top]; omega)
  refine Wp.brnT (fitsA _ _ (by show (b ++ encV x.length).length + x.length ≤ _; rw [List.length_append]; omega)) ?_
  exact some_row (List.append_assoc ..)
theorem encA_snoc (l:List Byt) (x:Byt):encA (l ++ [x]) = encA l ++ encB x:=by
  rw [encA_app]
  show encA l ++ (encB x ++ []) = _
  rw [List.append_nil]
theorem encA_pre (l:List Byt) (n:Nat):(encA (l.take n)).length ≤ (encA l).length:=by
  have:=encA_app (l.take n) (l.drop n)
  rw [List.take_append_drop] at this
  rw [this,List.length_append]
  exact Nat.le_add_right _ _
theorem encA_mem {l:List Byt} {n:Nat} (h:n < l.length):(encA (l.take n)).length + (encB l[n]).length ≤ (encA l).length:=by
  have:=encA_pre l (n + 1)
  rw [List.take_succ_eq_append_getElem h,encA_snoc,List.length_append] at this
  exact this
theorem len_encA (l:List Byt):l.length ≤ (encA l).length:=by
  induction l with
  | nil=>exact Nat.le_refl _
  | cons x l ih=>show l.length + 1 ≤ (encB x ++ encA l).length; rw [List.length_append,encB_len]; omega
theorem rEnc (l:List Byt) (h:(encA l).length ≤ 1073740000):pontagelaw29_encode K0 ((l,()),()) = some ((),(encA l,())):=by
  refine Wp.out (T:=fun o=>o = some ((),(encA l,()))) ?_
  unfold pontagelaw29_encode
  have hl:=len_encA l
  refine Wp.iter (fun x=>∃ n,n ≤ l.length∧x = ((l,(i6 n,())),(encA (l.take n),()))) (fun x=>l.length - x.1.2.1.val.toNat) ?_ ⟨0,Nat.zero_le _,rfl⟩ (by rw [K0_eq]; show l.length - 0 < _; omega)
  rintro x ⟨n,hn,rfl⟩
  simp only [i6_ofNat,lenL_eq,i6_ltb (show n < 9223372036854775808 by omega) (show l.length < 9223372036854775808 by omega),i6_nat (show n < 9223372036854775808 by omega)]
  refine Wp.brn (fun hc=>?_) (fun hc=>?_)
  · have hc:=of_decide_eq_true hc
    have hm:=encA_mem hc
    have hb:=encB_len l[n]
    refine Wp.brnT (i6_inB hc (by omega)) ?_
    rw [rdL_eq _ _ _ hc]
    refine Wp.optF (rBytes (encA (l.take n)) l[n] (by omega)) (Wp.again ⟨n + 1,hc,?_⟩ ?_)
    · show ((l,(I.add (i6 n) (i6 1),())),(encA (l.take n) ++ encB l[n],())) = _
      rw [i6_add (by omega),List.take_succ_eq_append_getElem hc,encA_snoc]
    · show l.length - (I.add (i6 n) (i6 1)).val.toNat < l.length - (i6 n).val.toNat
      rw [i6_add (by omega),i6_val (by omega),i6_val (by omega)]; omega
  · have hc:=of_decide_eq_false hc
    have:l.take n = l:=List.take_of_length_le (by omega)
    rw [this]
    exact Wp.done rfl
end Sym

/- What the wire's functions read, both programs': numbers. -/
namespace Sym
open Go
theorem updU_val (a:U) (q:Nat) (hq:q < 4) (z:I .u64):U.val (Arr.upd 4 a q z) + 18446744073709551616 ^ q * (Arr.sel (I.of .u64 0) 4 a q).nat = a.val + 18446744073709551616 ^ q * z.nat:=by
  obtain ⟨z0,z1,z2,z3,⟨⟩⟩:=a
  match q,hq with
  | 0,_=>show U.val (z,z1,z2,z3,()) + _ * z0.nat = _; simp only [U.val,Nat.reducePow]; omega
  | 1,_=>show U.val (z0,z,z2,z3,()) + _ * z1.nat = _; simp only [U.val,Nat.reducePow]; omega
  | 2,_=>show U.val (z0,z1,z,z3,()) + _ * z2.nat = _; simp only [U.val,Nat.reducePow]; omega
  | 3,_=>show U.val (z0,z1,z2,z,()) + _ * z3.nat = _; simp only [U.val,Nat.reducePow]; omega
theorem w64 (r:Nat) (h:r < 8):(18446744073709551616:Nat) = 256 ^ (r + 1) * 256 ^ (7 - r):=by
  rw [← Nat.pow_add,show r + 1 + (7 - r) = 8 by omega]
theorem sel_low {a : U} {w j : Nat} (ha : a.val = w * 256 ^ (j + 1)) (hj : j < 32) :
    (Arr.sel (I.of .u64 0) 4 a (j / 8)).nat % 256 ^ (j % 8 + 1) = 0∧∀ c,c < 256→(Arr.sel (I.of .u64 0) 4 a (j / 8)).nat + c * 256 ^ (j % 8) < 18446744073709551616:=by
  have hs:=sel_nat a (j / 8) (by omega)
  have hW:=w64 (j % 8) (by omega)
  have e:a.val / 18446744073709551616 ^ (j / 8) = w * 256 ^ (j % 8 + 1):=by
    rw [ha,p64,show j + 1 = 8 * (j / 8) + (j % 8 + 1) by omega,Nat.pow_add,← Nat.mul_assoc,Nat.mul_right_comm]
    exact Nat.mul_div_cancel _ (Nat.pow_pos (by decide))
  rw [e] at hs
  have h0:(Arr.sel (I.of .u64 0) 4 a (j / 8)).nat % 256 ^ (j % 8 + 1) = 0:=by
    rw [hs,hW,Nat.mod_mul_right_mod]
    exact Nat.mul_mod_left _ _
  refine ⟨h0,fun c hc=>?_⟩
  obtain ⟨u,hu⟩:=Nat.dvd_of_mod_eq_zero h0
  have hlt:=nat_lt (Arr.sel (I.of .u64 0) 4 a (j / 8))
  have hp:0 < 256 ^ (j % 8 + 1):=Nat.pow_pos (by decide)
  rw [hu] at hlt ⊢
  have hu2:u < 256 ^ (7 - j % 8):=by
    rw [hW] at hlt
    exact (Nat.mul_lt_mul_left hp).1 hlt
  have h1:c * 256 ^ (j % 8) < 256 ^ (j % 8 + 1):=by
    rw [Nat.pow_succ,Nat.mul_comm (256 ^ (j % 8))]
    exact Nat.mul_lt_mul_of_pos_right hc (Nat.pow_pos (by decide))
  have h2:256 ^ (j % 8 + 1) * (u + 1) ≤ 256 ^ (j % 8 + 1) * 256 ^ (7 - j % 8):=Nat.mul_le_mul_left _ hu2
  rw [← hW,Nat.mul_succ] at h2
  omega
theorem acc_step {a : U} {w c j : Nat} (ha : a.val = w * 256 ^ (j + 1)) (hc : c < 256) (hj : j < 32) (ht : (w * 256 + c) * 256 ^ j < U.top) {z : I .u64} (hz : z.nat = (Arr.sel (I.of .u64 0) 4 a (j / 8)).nat + c * 256 ^ (j % 8)) :
    Arr.upd 4 a (j / 8) z = U.of ((w * 256 + c) * 256 ^ j):=by
  refine U.ext ?_
  rw [U.val_of ht]
  have h:=updU_val a (j / 8) (by omega) z
  have e:18446744073709551616 ^ (j / 8) * (c * 256 ^ (j % 8)) = c * 256 ^ j:=by
    rw [p64,Nat.mul_left_comm,← Nat.pow_add,show 8 * (j / 8) + j % 8 = j by omega]
  rw [hz,Nat.mul_add,e,ha] at h
  have e2:(w * 256 + c) * 256 ^ j = w * 256 ^ (j + 1) + c * 256 ^ j:=by
    rw [Nat.add_mul,Nat.pow_succ,Nat.mul_assoc,Nat.mul_comm 256 (256 ^ j)]
  rw [e2]
  omega
theorem shl_byte (x:I .u8) {l:IntKind} (s:I l) (r:Nat) (hr:r < 8) (hs:s.val = ((8 * r:Nat):Int)):(I.shl (I.conv (k:=.u8) .u64 x) s).nat = I.nat x * 256 ^ r:=by
  have hx:=u8_nat x
  have hv:(I.conv (k:=.u8) .u64 x).val = x.val:=of_u64 (by omega)
  have hm:I.nat x * 256 ^ r < 18446744073709551616:=by
    have:256 ^ r ≤ 256 ^ 7:=Nat.pow_le_pow_right (by decide) (by omega)
    have:I.nat x * 256 ^ r ≤ 255 * 256 ^ 7:=Nat.mul_le_mul (by omega) this
    omega
  have:(I.shl (I.conv (k:=.u8) .u64 x) s).val = ((I.nat x * 256 ^ r:Nat):Int):=by
    show (I.of .u64 ((I.conv (k:=.u8) .u64 x).val * 2 ^ (min s.val.toNat 64))).val = _
    have e:min s.val.toNat 64 = 8 * r:=by omega
    rw [hv,e,← hx.1]
    have e2:((I.nat x:Int)) * 2 ^ (8 * r) = ((I.nat x * 256 ^ r:Nat):Int):=by
      rw [p256,Int.natCast_mul,Int.natCast_pow]; rfl
    rw [e2]
    exact of_u64 ⟨Int.natCast_nonneg _,Int.ofNat_lt.2 hm⟩
  have h2:=nat_val (I.shl (I.conv (k:=.u8) .u64 x) s)
  rw [this] at h2
  exact Int.ofNat.inj h2
theorem acc_or {a : U} {w j : Nat} (ha : a.val = w * 256 ^ (j + 1)) (hj : j < 32) (x : I .u8) (ht : (w * 256 + I.nat x) * 256 ^ j < U.top) {l : IntKind} (s : I l) (hs : s.val = ((8 * (j % 8) : Nat) : Int)) :
    Arr.upd 4 a (j / 8) (I.or (Arr.sel (I.of .u64 0) 4 a (j / 8)) (I.shl (I.conv (k:=.u8) .u64 x) s)) = U.of ((w * 256 + I.nat x) * 256 ^ j):=by
  have hx:=(u8_nat x).2
  have hy:=shl_byte x s (j % 8) (by omega) hs
  refine acc_step ha hx hj ht ?_
  rw [or_add _ _ (8 * (j % 8) + 8) ?_ ?_,hy]
  · rw [hy,show 8 * (j % 8) + 8 = 8 * (j % 8 + 1) by omega,← p256,Nat.pow_succ,Nat.mul_comm (256 ^ (j % 8))]
    exact Nat.mul_lt_mul_of_pos_right hx (Nat.pow_pos (by decide))
  · rw [show 8 * (j % 8) + 8 = 8 * (j % 8 + 1) by omega,← p256]
    exact (sel_low ha hj).1
theorem acc_add {a : U} {w j : Nat} (ha : a.val = w * 256 ^ (j + 1)) (hj : j < 32) (x : I .u8) (ht : (w * 256 + I.nat x) * 256 ^ j < U.top) {l : IntKind} (s : I l) (hs : s.val = ((8 * (j % 8) : Nat) : Int)) :
    Arr.upd 4 a (j / 8) (I.add (Arr.sel (I.of .u64 0) 4 a (j / 8)) (I.shl (I.conv (k:=.u8) .u64 x) s)) = U.of ((w * 256 + I.nat x) * 256 ^ j):=by
  have hx:=(u8_nat x).2
  have hy:=shl_byte x s (j % 8) (by omega) hs
  have hlow:=(sel_low ha hj).2 _ hx
  refine acc_step ha hx hj ht ?_
  have h1:=nat_val (Arr.sel (I.of .u64 0) 4 a (j / 8))
  have h2:=nat_val (I.shl (I.conv (k:=.u8) .u64 x) s)
  rw [← hy] at hlow ⊢
  have h3:=add_u64 (a:=Arr.sel (I.of .u64 0) 4 a (j / 8)) (b:=I.shl (I.conv (k:=.u8) .u64 x) s) (by omega)
  have h4:=nat_val (I.add (Arr.sel (I.of .u64 0) 4 a (j / 8)) (I.shl (I.conv (k:=.u8) .u64 x) s))
  omega
theorem rdL_drop {X:Type} (d:X) (l:List X) (i j:Nat):rdL d (l.drop i) j = rdL d l (i + j):=by
  by_cases h:i + j < l.length
  · rw [rdL_eq _ _ _ (by rw [List.length_drop]; omega),rdL_eq _ _ _ h,List.getElem_drop]
  · rw [rdL_out _ _ _ (by rw [List.length_drop]; omega),rdL_out _ _ _ (by omega)]
theorem conv_u8 (x:I .u8):I.conv (k:=.u8) .i64 x = i6 (I.nat x):=by
  have hx:=u8_nat x
  apply I.ext'
  rw [i6_val (by omega),hx.1]
  exact of_i64 (by omega)
theorem unbe_take (l:Byt) (q:Nat) (h:q < l.length):unbe (l.take (q + 1)) = unbe (l.take q) * 256 + atB l q:=by
  rw [List.take_succ_eq_append_getElem h,unbe_snoc]
  unfold atB
  rw [rdL_eq _ _ _ h]
noncomputable def rdO (o:Option (Nat × Nat)):U × I .i64 × I .i64 × Unit :=
  match o with
  | some (v,j)=>(U.of v,i6 j,i6 0,())
  | none=>(Z_U,i6 0,i6 3,())
theorem rdU_no {b:Byt} {i m:Nat} (h:¬ (i < b.length∧atB b i ≤ m∧atB b i ≤ b.length - i - 1∧(atB b i = 0 ∨ atB b (i + 1) ≠ 0))):rdO (rdU b i m) = (Z_U,i6 0,i6 3,()):=by
  unfold rdU
  rw [if_neg h]
  rfl
theorem rdU_yes {b:Byt} {i m:Nat} (h:i < b.length∧atB b i ≤ m∧atB b i ≤ b.length - i - 1∧(atB b i = 0 ∨ atB b (i + 1) ≠ 0)):rdO (rdU b i m) = (U.of (unbe ((b.drop (i + 1)).take (atB b i))),i6 (i + 1 + atB b i),i6 0,()):=by
  unfold rdU
  rw [if_pos h]
  rfl
theorem some_u {x y:U × I .i64 × I .i64 × Unit} (h:x = y):(some (x,()):Option ((U × I .i64 × I .i64 × Unit) × Unit)) = some (y,()):=by rw [h]
theorem top256:U.top = 256 ^ 32:=by decide
theorem wRead (b:Byt) (i m:Nat) (hi:i ≤ b.length) (hb:b.length ≤ 140737488355328) (hm:m ≤ 32):wire_readUint K0 ((b,(i6 i,(i6 m,()))),()) = some (rdO (rdU b i m),()):=by
  refine Wp.out (T:=fun o=>o = some (rdO (rdU b i m),())) ?_
  unfold wire_readUint
  have e0:I.of .i64 0 = i6 0:=rfl
  have e1:I.of .i64 1 = i6 1:=rfl
  have e8:I.of .i64 8 = i6 8:=rfl
  have hs1:subL b i (b.length - i) = b.drop i:=subL_drop b i
  have hs2:subL (b.drop i) 1 ((b.drop i).length - 1) = b.drop (i + 1):=by rw [subL_drop,List.drop_drop]
  refine Wp.jnI (Wp.brnF (niff_ltb.2 (by show (i6 0).val ≤ (i6 i).val; rw [i6_val (by omega),i6_val (by omega)]; omega)) (Wp.brnF (niff_ltb.2 (by show (i6 i).val ≤ (i6 b.length).val; rw [i6_val (by omega),i6_val (by omega)]; omega)) ?_))
  simp only [e0,e1,e8,lenL_eq,i6_ofNat,i6_nat (show i < 9223372036854775808 by omega),hs1,hs2,rdL_drop,Nat.add_zero]
  refine Wp.brnT (i6_inB' hi (by omega)) ?_
  have hl1:(b.drop i).length = b.length - i:=List.length_drop
  have hl2:(b.drop (i + 1)).length = b.length - (i + 1):=List.length_drop
  rw [hl1,hl2,i6_eqb (show b.length - i < 9223372036854775808 by omega) (show 0 < 9223372036854775808 by omega)]
  refine Wp.brn (fun hc=>?_) (fun hc=>?_)
  · have hc:=of_decide_eq_true hc
    exact some_u (rdU_no (by omega)).symm
  have hc:=of_decide_eq_false hc
  have hk:=(u8_nat (rdL (I.of .u8 0) b i)).2
  refine Wp.brnT (i6_inB (by omega) (by omega)) (Wp.brnT (i6_inB' (by omega) (by omega)) (Wp.jnI ?_))
  rw [conv_u8,show I.nat (rdL (I.of .u8 0) b i) = atB b i from rfl] at *
  rw [i6_ltb (show m < 9223372036854775808 by omega) (show atB b i < 9223372036854775808 by omega),i6_ltb (show b.length - (i + 1) < 9223372036854775808 by omega) (show atB b i < 9223372036854775808 by omega),i6_ltb (show 0 < 9223372036854775808 by omega) (show atB b i < 9223372036854775808 by omega)]
  refine Wp.brn (fun h1=>?_) (fun h1=>?_)
  · have h1:=of_decide_eq_true h1
    exact some_u (rdU_no (by omega)).symm
  have h1:=of_decide_eq_false h1
  refine Wp.brn (fun h2=>?_) (fun h2=>?_)
  · have h2:=of_decide_eq_true h2
    exact some_u (rdU_no (by omega)).symm
  have h2:=of_decide_eq_false h2
  have loop : (i < b.length ∧ atB b i ≤ m ∧ atB b i ≤ b.length - i - 1 ∧ (atB b i = 0 ∨ atB b (i + 1) ≠ 0)) → Wp (fun o => o = some (rdO (rdU b i m), ())) (iter (none) (fun (x2 : (((I .i64) × ((List (I .u8)) × ((I .i64) × ((I .i64) × ((I .i64) × Unit))))) × (U × (U × Unit)))) =>
           brn (@I.ltb .i64 x2.1.2.2.2.2.1 x2.1.2.2.2.1)
            (brn (@inB .i64 (@I.quo .i64 (@I.sub .i64 (@I.sub .i64 x2.1.2.2.1 (i6 1)) x2.1.2.2.2.2.1) (i6 8)) 4)
             (brn (@inB .i64 x2.1.2.2.2.2.1 (x2.1.2.1.length))
              (brn (@I.nn .i64 (@I.mul .i64 (i6 8) (@I.rem .i64 (@I.sub .i64 (@I.sub .i64 x2.1.2.2.1 (i6 1)) x2.1.2.2.2.2.1) (i6 8))))
               (brn (@inB .i64 (@I.quo .i64 (@I.sub .i64 (@I.sub .i64 x2.1.2.2.1 (i6 1)) x2.1.2.2.2.2.1) (i6 8)) 4)
                (.again ((x2.1.1,(x2.1.2.1,(x2.1.2.2.1,(x2.1.2.2.2.1,((@I.add .i64 x2.1.2.2.2.2.1 (i6 1)),()))))),(x2.2.1,((@Arr.upd (I .u64) 4 x2.2.2.1 (@I.nat .i64 (@I.quo .i64 (@I.sub .i64 (@I.sub .i64 x2.1.2.2.1 (i6 1)) x2.1.2.2.2.2.1) (i6 8))) (@I.or .u64 (@Arr.sel (I .u64) (I.of .u64 0) 4 x2.2.2.1 (@I.nat .i64 (@I.quo .i64 (@I.sub .i64 (@I.sub .i64 x2.1.2.2.1 (i6 1)) x2.1.2.2.2.2.1) (i6 8)))) (@I.shl .u64 .i64 (I.conv (k:=.u8) .u64 (@rdL (I .u8) (I.of .u8 0) x2.1.2.1 (@I.nat .i64 x2.1.2.2.2.2.1))) (@I.mul .i64 (i6 8) (@I.rem .i64 (@I.sub .i64 (@I.sub .i64 x2.1.2.2.1 (i6 1)) x2.1.2.2.2.2.1) (i6 8)))))),()))))
                (.done (none)))
               (.done (none)))
              (.done (none)))
             (.done (none)))
            (.done (some ((x2.2.2.1,((@I.add .i64 (@I.add .i64 x2.1.1 (i6 1)) x2.1.2.2.1),((i6 0),()))),()))))
         K0 ((i6 i,(b.drop (i + 1),(i6 (atB b i),(i6 (atB b i),(i6 0,()))))),(Z_U,(Z_U,())))):=by
    intro hy
    have hk32:atB b i ≤ 32:=by omega
    refine Wp.iter (fun x=>∃ q,q ≤ atB b i∧x = ((i6 i,(b.drop (i + 1),(i6 (atB b i),(i6 (atB b i),(i6 q,()))))),(Z_U,(U.of (unbe ((b.drop (i + 1)).take q) * 256 ^ (atB b i - q)),())))) (fun x=>atB b i - x.1.2.2.2.2.1.val.toNat) ?_ ⟨0,Nat.zero_le _,?_⟩ (by rw [K0_eq]; show atB b i - 0 < _; omega)
    case refine_2 =>
      have:unbe ((b.drop (i + 1)).take 0) * 256 ^ (atB b i - 0) = 0:=by rw [List.take_zero]; exact Nat.zero_mul _
      rw [this]
      rfl
    rintro x ⟨q,hq,rfl⟩
    simp only [i6_ltb (show q < 9223372036854775808 by omega) (show atB b i < 9223372036854775808 by omega)]
    refine Wp.brn (fun h3=>?_) (fun h3=>?_)
    · have h3:=of_decide_eq_true h3
      obtain ⟨j,hj⟩:∃ j,atB b i - 1 - q = j:=⟨_,rfl⟩
      have hj32:j < 32:=by omega
      have hq8:8 * (j % 8) < 9223372036854775808:=by omega
      simp only [i6_sub (show atB b i < 9223372036854775808 by omega) (show 1 ≤ atB b i by omega),i6_sub (show atB b i - 1 < 9223372036854775808 by omega) (show q ≤ atB b i - 1 by omega),hj,quo_i6 (show j < 9223372036854775808 by omega) (show 0 < 8 by omega) (by omega),rem_i6 (show j < 9223372036854775808 by omega) (show 0 < 8 by omega) (by omega),mul_i6 hq8 (by omega) (by omega),i6_nat (show j / 8 < 9223372036854775808 by omega),i6_nat (show q < 9223372036854775808 by omega)]
      refine Wp.brnT (i6_inB (by omega) (by omega)) (Wp.brnT (i6_inB (by rw [hl2]; omega) (by omega)) (Wp.brnT (iff_nn.2 (by rw [i6_val hq8]; omega)) (Wp.brnT (i6_inB (by omega) (by omega)) (Wp.again ⟨q + 1,h3,?_⟩ ?_))))
      · have hw:=unbe_lt ((b.drop (i + 1)).take (q + 1))
        rw [List.length_take,hl2,Nat.min_eq_left (by omega),unbe_take _ _ (by rw [hl2]; omega)] at hw
        have ht:(unbe ((b.drop (i + 1)).take q) * 256 + atB (b.drop (i + 1)) q) * 256 ^ j < U.top:=by
          rw [top256]
          have h4:(unbe ((b.drop (i + 1)).take q) * 256 + atB (b.drop (i + 1)) q) * 256 ^ j < 256 ^ (q + 1) * 256 ^ j:=Nat.mul_lt_mul_of_pos_right hw (Nat.pow_pos (by decide))
          rw [← Nat.pow_add] at h4
          exact Nat.lt_of_lt_of_le h4 (Nat.pow_le_pow_right (by decide) (by omega))
        have hv:(U.of (unbe ((b.drop (i + 1)).take q) * 256 ^ (atB b i - q))).val = unbe ((b.drop (i + 1)).take q) * 256 ^ (j + 1):=by
          rw [show atB b i - q = j + 1 by omega,U.val_of]
          refine Nat.lt_of_le_of_lt ?_ ht
          rw [Nat.pow_succ,Nat.mul_comm (256 ^ j),← Nat.mul_assoc]
          exact Nat.mul_le_mul_right _ (Nat.le_add_right _ _)
        have h5:=acc_or hv hj32 (rdL (I.of .u8 0) (b.drop (i + 1)) q) ht (i6 (8 * (j % 8))) (i6_val hq8)
        rw [show atB b i - (q + 1) = j by omega,unbe_take _ _ (by rw [hl2]; omega)]
        show ((i6 i,(b.drop (i + 1),(i6 (atB b i),(i6 (atB b i),(I.add (i6 q) (i6 1),()))))),(Z_U,(_,()))) = _
        rw [i6_add (by omega)]
        exact congrArg (fun z=>((i6 i,(b.drop (i + 1),(i6 (atB b i),(i6 (atB b i),(i6 (q + 1),()))))),(Z_U,(z,())))) h5
      · show atB b i - (I.add (i6 q) (i6 1)).val.toNat < atB b i - (i6 q).val.toNat
        rw [i6_add (by omega),i6_val (by omega),i6_val (by omega)]; omega
    · have h3:=of_decide_eq_false h3
      have hqk:q = atB b i:=by omega
      refine Wp.done ?_
      rw [rdU_yes hy,hqk,Nat.sub_self,Nat.pow_zero,Nat.mul_one]
      show some ((_,(I.add (I.add (i6 i) (i6 1)) (i6 (atB b i)),(i6 0,()))),()) = _
      rw [i6_add (by omega),i6_add (by omega)]
  refine Wp.brn (fun h3=>?_) (fun h3=>?_)
  · have h3:=of_decide_eq_true h3
    refine Wp.brnT (i6_inB (by omega) (by omega)) (Wp.brn (fun h4=>?_) (fun h4=>?_))
    · have h4:=I.eq_of h4
      have:atB b (i + 1) = 0:=by unfold atB; rw [h4]; rfl
      exact some_u (rdU_no (by omega)).symm
    · have h4:=niff_eqb.1 h4
      have:atB b (i + 1) ≠ 0:=fun h=>h4 (by
        have:=(u8_nat (rdL (I.of .u8 0) b (i + 1))).1
        unfold atB at h
        show (rdL (I.of .u8 0) b (i + 1)).val = 0
        omega)
      exact loop (by omega)
  · have h3:=of_decide_eq_false h3
    exact loop (by omega)
end Sym

/- What the reference reads; byte strings read, both programs'. -/
namespace Sym
open Go
theorem rRead (b:Byt) (i m:Nat) (hi:i ≤ b.length) (hb:b.length ≤ 140737488355328) (hm:m ≤ 32):pontageref6_take K0 ((b,(i6 i,(i6 m,()))),()) = some (rdO (rdU b i m),()):=by
  refine Wp.out (T:=fun o=>o = some (rdO (rdU b i m),())) ?_
  unfold pontageref6_take
  have e0:I.of .i64 0 = i6 0:=rfl
  have e1:I.of .i64 1 = i6 1:=rfl
  have e8:I.of .i64 8 = i6 8:=rfl
  have hk:=(u8_nat (rdL (I.of .u8 0) b i)).2
  have hka:I.nat (rdL (I.of .u8 0) b i) = atB b i:=rfl
  rw [hka] at hk
  refine Wp.jnI (Wp.brnF (niff_ltb.2 (by show (i6 0).val ≤ (i6 i).val; rw [i6_val (by omega),i6_val (by omega)]; omega)) (Wp.brnF (niff_ltb.2 (by show (i6 i).val ≤ (i6 b.length).val; rw [i6_val (by omega),i6_val (by omega)]; omega)) ?_))
  refine Wp.jn (fun x=>(i < b.length∧atB b i ≤ m∧atB b i ≤ b.length - i - 1∧(atB b i = 0 ∨ atB b (i + 1) ≠ 0))∧x = ((b,(i6 i,())),(Z_U,(Z_U,())))) ?_ ?_
  · rintro x ⟨hy,rfl⟩
    have hk32:atB b i ≤ 32:=by omega
    have hl2:(b.drop (i + 1)).length = b.length - (i + 1):=List.length_drop
    simp only [e0,e1,e8,lenL_eq,i6_nat (show i < 9223372036854775808 by omega),conv_u8,hka]
    refine Wp.brnT (i6_inB (by omega) (by omega)) ?_
    refine Wp.iter (fun x=>∃ q,q ≤ atB b i∧x = ((b,(i6 i,(i6 (atB b i),(i6 q,())))),(Z_U,(U.of (unbe ((b.drop (i + 1)).take q) * 256 ^ (atB b i - q)),())))) (fun x=>atB b i - x.1.2.2.2.1.val.toNat) ?_ ⟨0,Nat.zero_le _,?_⟩ (by rw [K0_eq]; show atB b i - 0 < _; omega)
    case refine_2 =>
      have:unbe ((b.drop (i + 1)).take 0) * 256 ^ (atB b i - 0) = 0:=by rw [List.take_zero]; exact Nat.zero_mul _
      rw [this]
      rfl
    rintro x ⟨q,hq,rfl⟩
    simp only [i6_ltb (show q < 9223372036854775808 by omega) (show atB b i < 9223372036854775808 by omega)]
    refine Wp.brn (fun h3=>?_) (fun h3=>?_)
    · have h3:=of_decide_eq_true h3
      obtain ⟨j,hj⟩:∃ j,atB b i - 1 - q = j:=⟨_,rfl⟩
      have hj32:j < 32:=by omega
      have hq8:8 * (j % 8) < 9223372036854775808:=by omega
      have hcv:(I.conv (k:=.i64) .u64 (i6 (8 * (j % 8)))).val = ((8 * (j % 8):Nat):Int):=by
        show (I.of .u64 (i6 (8 * (j % 8))).val).val = _
        rw [i6_val hq8,of_u64 (by omega)]
      simp only [i6_sub (show atB b i < 9223372036854775808 by omega) (show 1 ≤ atB b i by omega),i6_sub (show atB b i - 1 < 9223372036854775808 by omega) (show q ≤ atB b i - 1 by omega),hj,quo_i6 (show j < 9223372036854775808 by omega) (show 0 < 8 by omega) (by omega),rem_i6 (show j < 9223372036854775808 by omega) (show 0 < 8 by omega) (by omega),mul_i6 hq8 (by omega) (by omega),i6_nat (show j / 8 < 9223372036854775808 by omega),i6_add (show i + 1 < 9223372036854775808 by omega),i6_add (show i + 1 + q < 9223372036854775808 by omega),i6_nat (show i + 1 + q < 9223372036854775808 by omega)]
      refine Wp.brnT (i6_inB (by omega) (by omega)) (Wp.brnT (i6_inB (by omega) (by omega)) (Wp.brnT (nn_u64 _) (Wp.brnT (i6_inB (by omega) (by omega)) (Wp.again ⟨q + 1,h3,?_⟩ ?_))))
      · have hw:=unbe_lt ((b.drop (i + 1)).take (q + 1))
        rw [List.length_take,hl2,Nat.min_eq_left (by omega),unbe_take _ _ (by rw [hl2]; omega)] at hw
        have ht:(unbe ((b.drop (i + 1)).take q) * 256 + atB (b.drop (i + 1)) q) * 256 ^ j < U.top:=by
          rw [top256]
          have h4:(unbe ((b.drop (i + 1)).take q) * 256 + atB (b.drop (i + 1)) q) * 256 ^ j < 256 ^ (q + 1) * 256 ^ j:=Nat.mul_lt_mul_of_pos_right hw (Nat.pow_pos (by decide))
          rw [← Nat.pow_add] at h4
          exact Nat.lt_of_lt_of_le h4 (Nat.pow_le_pow_right (by decide) (by omega))
        have hv:(U.of (unbe ((b.drop (i + 1)).take q) * 256 ^ (atB b i - q))).val = unbe ((b.drop (i + 1)).take q) * 256 ^ (j + 1):=by
          rw [show atB b i - q = j + 1 by omega,U.val_of]
          refine Nat.lt_of_le_of_lt ?_ ht
          rw [Nat.pow_succ,Nat.mul_comm (256 ^ j),← Nat.mul_assoc]
          exact Nat.mul_le_mul_right _ (Nat.le_add_right _ _)
        have h5:=acc_add hv hj32 (rdL (I.of .u8 0) (b.drop (i + 1)) q) ht (I.conv (k:=.i64) .u64 (i6 (8 * (j % 8)))) hcv
        rw [rdL_drop] at h5
        rw [show atB b i - (q + 1) = j by omega,unbe_take _ _ (by rw [hl2]; omega)]
        unfold atB
        rw [rdL_drop]
        show ((b,(i6 i,(_,(I.add (i6 q) (i6 1),())))),(Z_U,(_,()))) = _
        rw [i6_add (by omega)]
        exact congrArg (fun z=>((b,(i6 i,(i6 (atB b i),(i6 (q + 1),())))),(Z_U,(z,())))) h5
      · show atB b i - (I.add (i6 q) (i6 1)).val.toNat < atB b i - (i6 q).val.toNat
        rw [i6_add (by omega),i6_val (by omega),i6_val (by omega)]; omega
    · have h3:=of_decide_eq_false h3
      have hqk:q = atB b i:=by omega
      refine Wp.done ?_
      rw [rdU_yes hy,hqk,Nat.sub_self,Nat.pow_zero,Nat.mul_one]
      show some ((_,(I.add (I.add (i6 i) (i6 1)) (i6 (atB b i)),(i6 0,()))),()) = _
      rw [i6_add (by omega),i6_add (by omega)]
      rfl
  intro j1 hj1
  simp only [e0,e1,lenL_eq,i6_ofNat,i6_nat (show i < 9223372036854775808 by omega),conv_u8,hka,i6_eqb (show i < 9223372036854775808 by omega) (show b.length < 9223372036854775808 by omega)]
  refine Wp.brn (fun hc=>?_) (fun hc=>?_)
  · have hc:=of_decide_eq_true hc
    exact some_u (rdU_no (by omega)).symm
  have hc:=of_decide_eq_false hc
  refine Wp.brnT (i6_inB (by omega) (by omega)) ?_
  rw [i6_ltb (show m < 9223372036854775808 by omega) (show atB b i < 9223372036854775808 by omega)]
  refine Wp.brn (fun h1=>?_) (fun h1=>?_)
  · have h1:=of_decide_eq_true h1
    exact some_u (rdU_no (by omega)).symm
  have h1:=of_decide_eq_false h1
  refine Wp.brnT (i6_inB (by omega) (by omega)) ?_
  rw [i6_sub (show b.length < 9223372036854775808 by omega) hi,i6_sub (show b.length - i < 9223372036854775808 by omega) (by omega),i6_ltb (show b.length - i - 1 < 9223372036854775808 by omega) (show atB b i < 9223372036854775808 by omega)]
  refine Wp.brn (fun h2=>?_) (fun h2=>?_)
  · have h2:=of_decide_eq_true h2
    exact some_u (rdU_no (by omega)).symm
  have h2:=of_decide_eq_false h2
  refine Wp.brnT (i6_inB (by omega) (by omega)) ?_
  have hv:=(u8_nat (rdL (I.of .u8 0) b i)).1
  rw [hka] at hv
  have hz:(I.of .u8 0).val = 0:=rfl
  refine Wp.brn (fun h3=>?_) (fun h3=>?_)
  · have h3:=iff_ltb.1 h3
    rw [hz] at h3
    have h3:0 < (rdL (I.of .u8 0) b i).val:=h3
    simp only [i6_add (show i + 1 < 9223372036854775808 by omega),i6_nat (show i + 1 < 9223372036854775808 by omega)]
    refine Wp.brnT (i6_inB (by omega) (by omega)) (Wp.brn (fun h4=>?_) (fun h4=>?_))
    · have h4:=I.eq_of h4
      have:atB b (i + 1) = 0:=by unfold atB; rw [h4]; rfl
      exact some_u (rdU_no (by omega)).symm
    · have h4:=niff_eqb.1 h4
      have:atB b (i + 1) ≠ 0:=fun h=>h4 (by
        have:=(u8_nat (rdL (I.of .u8 0) b (i + 1))).1
        unfold atB at h
        show (rdL (I.of .u8 0) b (i + 1)).val = 0
        omega)
      exact hj1 _ ⟨by omega,rfl⟩
  · have h3:=niff_ltb.1 h3
    rw [hz] at h3
    have h3:(rdL (I.of .u8 0) b i).val ≤ 0:=h3
    exact hj1 _ ⟨by omega,rfl⟩
noncomputable def rdP (o:Option (Byt × Nat)):Byt × I .i64 × I .i64 × Unit :=
  match o with
  | some (x,j)=>(x,i6 j,i6 0,())
  | none=>([],i6 0,i6 3,())
theorem u64_len {n v:Nat} (hn:n < 9223372036854775808) (hv:v < 18446744073709551616):I.ltb (I.conv (k:=.i64) .u64 (i6 n)) (I.of .u64 ((v % 18446744073709551616:Nat):Int)) = decide (n < v):=by
  have h1:(I.conv (k:=.i64) .u64 (i6 n)).val = (n:Int):=by
    show (I.of .u64 (i6 n).val).val = _
    rw [i6_val hn,of_u64 (by omega)]
  have h2:(I.of .u64 ((v % 18446744073709551616:Nat):Int)).val = (v:Int):=by rw [Nat.mod_eq_of_lt hv,of_u64 (by omega)]
  by_cases h:n < v
  · rw [decide_eq_true h]; exact iff_ltb.2 (by omega)
  · rw [decide_eq_false h]; exact niff_ltb.2 (by omega)
theorem conv_len {v:Nat} (hv:v < 9223372036854775808):I.conv (k:=.u64) .i64 (I.of .u64 ((v % 18446744073709551616:Nat):Int)) = i6 v:=by
  apply I.ext'
  show (I.of .i64 (I.of .u64 ((v % 18446744073709551616:Nat):Int)).val).val = _
  rw [Nat.mod_eq_of_lt (by omega),of_u64 (by omega)]
  rfl
theorem rdB_none {b:Byt} {i:Nat} (h:rdU b i 8 = none):rdB b i = none:=by unfold rdB; rw [h]
theorem rdB_no {b:Byt} {i v j:Nat} (h:rdU b i 8 = some (v,j)) (h2:¬ v ≤ b.length - j):rdB b i = none:=by unfold rdB; rw [h]; exact if_neg h2
theorem rdB_yes {b:Byt} {i v j:Nat} (h:rdU b i 8 = some (v,j)) (h2:v ≤ b.length - j):rdB b i = some (subL b j v,j + v):=by unfold rdB; rw [h]; exact if_pos h2
theorem wReadB (b:Byt) (i:Nat) (hi:i ≤ b.length) (hb:b.length ≤ 1073741824):wire_ReadBytes K0 ((b,(i6 i,())),()) = some (rdP (rdB b i),()):=by
  refine Wp.out (T:=fun o=>o = some (rdP (rdB b i),())) ?_
  unfold wire_ReadBytes
  have hr:=wRead b i 8 hi (by omega) (by omega)
  have hu:wire_ReadUint64 K0 ((b,(i6 i,())),()) = some (((rdO (rdU b i 8)).1.1,((rdO (rdU b i 8)).2.1,((rdO (rdU b i 8)).2.2.1,()))),()):=by
    unfold wire_ReadUint64
    exact Wp.out (T:=fun o=>o = _) (Wp.optF hr rfl)
  refine Wp.optF hu ?_
  have e0:I.of .i64 0 = i6 0:=rfl
  have e3:I.of .i64 3 = i6 3:=rfl
  simp only [e0,e3,lenL_eq,i6_ofNat]
  cases hU:rdU b i 8 with
  | none =>
    refine Wp.brnT (by show I.neb (i6 3) (i6 0) = true; rw [i6_neb (by omega) (by omega)]; rfl) ?_
    rw [rdB_none hU]
    rfl
  | some y =>
    obtain ⟨v,j⟩:=y
    obtain ⟨h1,h2,_,h4⟩:=rdU_some hU
    refine Wp.brnF (by show I.neb (i6 0) (i6 0) = false; rw [i6_neb (by omega) (by omega)]; rfl) ?_
    simp only [rdO,U.of,i6_sub (show b.length < 9223372036854775808 by omega) h2,u64_len (show b.length - j < 9223372036854775808 by omega) (show v < 18446744073709551616 by omega)]
    refine Wp.brn (fun h5=>?_) (fun h5=>?_)
    · have h5:=of_decide_eq_true h5
      rw [rdB_no hU (by omega)]
      rfl
    have h5:=of_decide_eq_false h5
    simp only [conv_len (show v < 9223372036854775808 by omega),i6_add (show j + v < 9223372036854775808 by omega),i6_nat (show j < 9223372036854775808 by omega),i6_nat (show j + v < 9223372036854775808 by omega),show j + v - j = v by omega]
    have hl:(subL b j v).length = v:=by simp only [subL,List.length_take,List.length_drop]; omega
    refine Wp.brnT (i6_inB' (by omega) (by omega)) (Wp.brnT (i6_inB' (by omega) (by omega)) ?_)
    refine Wp.optF (y:=((subL b j v,()),())) ?_ ?_
    · show brn (fitsLen (lenL (subL b j v))) _ _ = _
      rw [fits_le (by rw [lenL_eq,hl]; omega)]
      rfl
    · rw [rdB_yes hU (by omega)]
      rfl
theorem rReadB (b:Byt) (i:Nat) (hi:i ≤ b.length) (hb:b.length ≤ 1073741824):pontageref6_ReadBytes K0 ((b,(i6 i,())),()) = some (rdP (rdB b i),()):=by
  refine Wp.out (T:=fun o=>o = some (rdP (rdB b i),())) ?_
  unfold pontageref6_ReadBytes
  have hr:=rRead b i 8 hi (by omega) (by omega)
  have hu:pontageref6_ReadUint64 K0 ((b,(i6 i,())),()) = some (((rdO (rdU b i 8)).1.1,((rdO (rdU b i 8)).2.1,((rdO (rdU b i 8)).2.2.1,()))),()):=by
    unfold pontageref6_ReadUint64
    exact Wp.out (T:=fun o=>o = _) (Wp.optF hr rfl)
  refine Wp.optF hu ?_
  have e0:I.of .i64 0 = i6 0:=rfl
  have e3:I.of .i64 3 = i6 3:=rfl
  simp only [e0,e3,lenL_eq,i6_ofNat]
  cases hU:rdU b i 8 with
  | none =>
    refine Wp.brnT (by show I.neb (i6 3) (i6 0) = true; rw [i6_neb (by omega) (by omega)]; rfl) ?_
    rw [rdB_none hU]
    rfl
  | some y =>
    obtain ⟨v,j⟩:=y
    obtain ⟨h1,h2,_,h4⟩:=rdU_some hU
    refine Wp.brnF (by show I.neb (i6 0) (i6 0) = false; rw [i6_neb (by omega) (by omega)]; rfl) ?_
    simp only [rdO,U.of,i6_sub (show b.length < 9223372036854775808 by omega) h2,u64_len (show b.length - j < 9223372036854775808 by omega) (show v < 18446744073709551616 by omega)]
    refine Wp.brn (fun h5=>?_) (fun h5=>?_)
    · have h5:=of_decide_eq_true h5
      rw [rdB_no hU (by omega)]
      rfl
    have h5:=of_decide_eq_false h5
    simp only [conv_len (show v < 9223372036854775808 by omega),i6_add (show j + v < 9223372036854775808 by omega),i6_nat (show j < 9223372036854775808 by omega),i6_nat (show j + v < 9223372036854775808 by omega),show j + v - j = v by omega]
    have hl:(subL b j v).length = v:=by simp only [subL,List.length_take,List.length_drop]; omega
    refine Wp.brnT (i6_inB' (by omega) (by omega)) (Wp.brnT (i6_inB' (by omega) (by omega)) (Wp.brnT (fits_le (by show ([] ++ subL b j v).length ≤ _; rw [List.nil_append,hl]; omega)) ?_))
    rw [rdB_yes hU (by omega)]
    rfl
end Sym

/- Lists of byte strings decoded, both programs'; the laws. -/
namespace Sym
open Go
theorem bytes_yes {b : Byt} {i j : Nat} {x : Byt} (hi : i ≤ b.length) (hb : b.length ≤ 1073741824) (h : rdB b i = some (x, j)) :
    wirereader_Reader_Bytes K0 ((),((b,(i6 i,(false,()))),())) = some ((x,()),((b,(i6 j,(false,()))),())):=by
  refine Wp.out (T:=fun o=>o = some ((x,()),((b,(i6 j,(false,()))),()))) ?_
  unfold wirereader_Reader_Bytes
  refine Wp.optF (wReadB b i hi hb) ?_
  rw [h]
  refine Wp.optF (y:=((true,()),((b,(i6 j,(false,()))),()))) ?_ rfl
  unfold wirereader_Reader_advance
  refine Wp.out (T:=fun o=>o = _) (Wp.brnF rfl (Wp.brnF ?_ rfl))
  show I.neb (i6 0) (i6 0) = false
  rw [i6_neb (by omega) (by omega)]
  rfl
theorem bytes_no {b : Byt} {i : Nat} (hi : i ≤ b.length) (hb : b.length ≤ 1073741824) (h : rdB b i = none) :
    wirereader_Reader_Bytes K0 ((),((b,(i6 i,(false,()))),())) = some (([],()),((b,(i6 i,(true,()))),())):=by
  refine Wp.out (T:=fun o=>o = some (([],()),((b,(i6 i,(true,()))),()))) ?_
  unfold wirereader_Reader_Bytes
  refine Wp.optF (wReadB b i hi hb) ?_
  rw [h]
  refine Wp.optF (y:=((false,()),((b,(i6 i,(true,()))),()))) ?_ rfl
  unfold wirereader_Reader_advance
  refine Wp.out (T:=fun o=>o = _) (Wp.brnF rfl (Wp.brnT ?_ rfl))
  show I.neb (i6 3) (i6 0) = true
  rw [i6_neb (by omega) (by omega)]
  rfl
noncomputable def rdS (o:Option (List Byt)):List Byt × I .i64 × Unit :=
  match o with
  | some l=>(l,i6 0,())
  | none=>([],i6 3,())
theorem some_s {x y:List Byt × I .i64 × Unit} (h:x = y):(some (x,()):Option ((List Byt × I .i64 × Unit) × Unit)) = some (y,()):=by rw [h]
theorem rdA_end {f:Nat} {b:Byt} {i:Nat} (h:i = b.length):rdA f b i = some []:=by
  cases f <;> (unfold rdA; rw [if_pos h])
theorem rdA_more {f : Nat} {b : Byt} {i : Nat} (h : i ≠ b.length) : rdA (f + 1) b i = match rdB b i with
    | none=>none
    | some (x,j)=>(rdA f b j).map (x :: ·):=by
  rw [rdA,if_neg h] <;> rfl
theorem sDec (b:Byt) (hb:b.length ≤ 1073741000):script_Decode K0 ((b,()),()) = some (rdS (rdA b.length b 0),()):=by
  refine Wp.out (T:=fun o=>o = some (rdS (rdA b.length b 0),())) ?_
  unfold script_Decode
  refine Wp.optF (y:=((),((b,(i6 0,(false,()))),()))) rfl ?_
  refine Wp.jnI ?_
  refine Wp.iter (fun x => ∃ (l : List Byt) (i : Nat) (bad : Bool), x = ((), (l, ((b, (i6 i, (bad, ()))), ()))) ∧ i ≤ b.length ∧ l.length ≤ i + 1 ∧ (bad = false → l.length ≤ i) ∧
      (match bad with | true=>rdA b.length b 0 = none | false=>∃ f,b.length - i ≤ f∧rdA b.length b 0 = (rdA f b i).map (l ++ ·))) (fun x=>(if x.2.2.1.2.2.1 then 0 else 1) + (b.length - x.2.2.1.2.1.val.toNat)) ?_ ⟨[],0,false,rfl,Nat.zero_le _,Nat.zero_le _,fun _=>Nat.le_refl _,b.length,Nat.sub_le _ _,?_⟩ ?_
  case refine_2 =>
    have:(fun l:List Byt=>[] ++ l) = id:=by funext l; rfl
    show _ = (rdA b.length b 0).map (fun l=>[] ++ l)
    rw [this,Option.map_id]; rfl
  case refine_3 =>
    rw [K0_eq]
    show (if false = true then 0 else 1) + (b.length - (i6 0).val.toNat) < _
    have:(if false = true then 0 else 1) = 1:=rfl
    omega
  rintro x ⟨l,i,bad,rfl,hi,hl,hl2,hinv⟩
  have hdone:wirereader_Reader_Done K0 (((b,(i6 i,(bad,()))),()),()) = some ((!bad && decide (i = b.length),()),()):=by
    unfold wirereader_Reader_Done
    cases bad with
    | true=>rfl
    | false =>
      show some ((I.eqb (i6 i) (i6 b.length),()),()) = _
      rw [i6_eqb (by omega) (by omega)]
      rfl
  refine Wp.optF hdone ?_
  cases bad with
  | true =>
    refine Wp.brnT rfl (Wp.optF (y:=((true,()),())) rfl (Wp.brnF rfl (Wp.done (Wp.optF (y:=((true,()),())) rfl (Wp.brnT rfl ?_)))))
    show some (([],(I.of .i64 3,())),()) = _
    rw [show rdA b.length b 0 = none from hinv]
    rfl
  | false =>
    obtain ⟨f,hf,hr⟩:=hinv
    have hl2:=hl2 rfl
    by_cases hc:i = b.length
    · refine Wp.brnF (by show (!(!false && decide (i = b.length))) = false; rw [decide_eq_true hc]; rfl) (Wp.done (Wp.optF (y:=((false,()),())) rfl (Wp.brnF rfl ?_)))
      show some ((l,(I.of .i64 0,())),()) = _
      rw [hr,rdA_end hc]
      show _ = some ((l ++ [],(i6 0,())),())
      exact some_s (by rw [List.append_nil]; rfl)
    · refine Wp.brnT (by show (!(!false && decide (i = b.length))) = true; rw [decide_eq_false hc]; rfl) (Wp.optF (y:=((false,()),())) rfl (Wp.brnT rfl ?_))
      obtain ⟨f',rfl⟩:∃ f',f = f' + 1:=⟨f - 1,by omega⟩
      rw [rdA_more hc] at hr
      cases hB:rdB b i with
      | none =>
        rw [hB] at hr
        refine Wp.optF (bytes_no hi (by omega) hB) (Wp.brnT (fitsA _ _ (by show l.length + 1 ≤ _; omega)) (Wp.again ⟨l ++ [[]],i,true,rfl,hi,by rw [List.length_append]; show l.length + 1 ≤ _; omega,fun h=>(by cases h),hr⟩ ?_))
        show (if true = true then 0 else 1) + (b.length - (i6 i).val.toNat) < (if false = true then 0 else 1) + (b.length - (i6 i).val.toNat)
        have h1:(if true = true then 0 else 1) = 0:=rfl
        have h2:(if false = true then 0 else 1) = 1:=rfl
        omega
      | some y =>
        obtain ⟨x,j⟩:=y
        rw [hB] at hr
        obtain ⟨h1,h2,_⟩:=rdB_some hB
        refine Wp.optF (bytes_yes hi (by omega) hB) (Wp.brnT (fitsA _ _ (by show l.length + 1 ≤ _; omega)) (Wp.again ⟨l ++ [x],j,false,rfl,h2,by rw [List.length_append]; show l.length + 1 ≤ _; omega,fun _=>by rw [List.length_append]; show l.length + 1 ≤ _; omega,f',by omega,?_⟩ ?_))
        · rw [hr]
          show ((rdA f' b j).map (x :: ·)).map (l ++ ·) = (rdA f' b j).map ((l ++ [x]) ++ ·)
          rw [Option.map_map]
          congr 1
          funext m
          show l ++ (x :: m) = (l ++ [x]) ++ m
          rw [List.append_assoc]
          rfl
        · show (if false = true then 0 else 1) + (b.length - (i6 j).val.toNat) < (if false = true then 0 else 1) + (b.length - (i6 i).val.toNat)
          rw [i6_val (by omega),i6_val (by omega)]
          omega
theorem rDec (b:Byt) (hb:b.length ≤ 1073741000):pontagelaw29_decodable K0 ((b,()),()) = some (((rdA b.length b 0).isSome,()),()):=by
  refine Wp.out (T:=fun o=>o = some (((rdA b.length b 0).isSome,()),())) ?_
  unfold pontagelaw29_decodable
  refine Wp.iter (fun x=>∃ i f,x = ((b,(i6 i,())),())∧i ≤ b.length∧b.length - i ≤ f∧(rdA b.length b 0).isSome = (rdA f b i).isSome) (fun x=>b.length - x.1.2.1.val.toNat) ?_ ⟨0,b.length,rfl,Nat.zero_le _,Nat.sub_le _ _,rfl⟩ (by rw [K0_eq]; show b.length - (i6 0).val.toNat < _; omega)
  rintro x ⟨i,f,rfl,hi,hf,hr⟩
  simp only [i6_ofNat,lenL_eq,i6_ltb (show i < 9223372036854775808 by omega) (show b.length < 9223372036854775808 by omega)]
  refine Wp.brn (fun hc=>?_) (fun hc=>?_)
  · have hc:=of_decide_eq_true hc
    refine Wp.optF (rReadB b i hi (by omega)) ?_
    obtain ⟨f',rfl⟩:∃ f',f = f' + 1:=⟨f - 1,by omega⟩
    rw [rdA_more (f:=f') (b:=b) (i:=i) (by omega)] at hr
    cases hB:rdB b i with
    | none =>
      rw [hB] at hr
      refine Wp.brnT (by show I.neb (i6 3) (i6 0) = true; rw [i6_neb (by omega) (by omega)]; rfl) (Wp.done ?_)
      rw [hr]
      rfl
    | some y =>
      obtain ⟨x,j⟩:=y
      rw [hB] at hr
      obtain ⟨h1,h2,_⟩:=rdB_some hB
      refine Wp.brnF (by show I.neb (i6 0) (i6 0) = false; rw [i6_neb (by omega) (by omega)]; rfl) (Wp.again ⟨j,f',rfl,h2,by omega,?_⟩ ?_)
      · rw [hr]
        show ((rdA f' b j).map (x :: ·)).isSome = _
        rw [Option.isSome_map]
      · show b.length - (i6 j).val.toNat < b.length - (i6 i).val.toNat
        rw [i6_val (by omega),i6_val (by omega)]
        omega
  · have hc:=of_decide_eq_false hc
    rw [rdA_end (f:=f) (b:=b) (i:=i) (by omega)] at hr
    refine Wp.done ?_
    rw [hr]
    rfl
def bulkL (l:List Byt):Nat:=(l.map fun x=>x.length + 1).sum
theorem bulk_take (l:List Byt) (i:Nat) (h:i < l.length):bulkL (l.take (i + 1)) = bulkL (l.take i) + (l[i].length + 1):=by
  unfold bulkL
  rw [List.take_succ_eq_append_getElem h,List.map_append,List.sum_append]
  simp
theorem bulk_le (l:List Byt) (i:Nat):bulkL (l.take i) ≤ bulkL l:=by
  have:bulkL l = bulkL (l.take i) + bulkL (l.drop i):=by
    unfold bulkL
    rw [← List.sum_append,← List.map_append,List.take_append_drop]
  omega
theorem len_bulk (l:List Byt):l.length ≤ bulkL l:=by
  induction l with
  | nil=>exact Nat.le_refl _
  | cons x l ih=>show l.length + 1 ≤ (x.length + 1) + bulkL l; omega
theorem encA_bulk (l:List Byt) (h:bulkL l ≤ 1048576):(encA l).length ≤ 9 * bulkL l:=by
  induction l with
  | nil=>exact Nat.zero_le _
  | cons x l ih =>
    have h:(x.length + 1) + bulkL l ≤ 1048576:=h
    have h2:=ih (by omega)
    have h3:nby x.length ≤ 8:=nby_le_of (by omega)
    show (encB x ++ encA l).length ≤ 9 * ((x.length + 1) + bulkL l)
    rw [List.length_append,encB_len]
    omega
theorem tooL (l:List Byt) (h:bulkL l ≤ 1048576):pontagelaw29_tooLarge K0 ((l,()),()) = some ((decide (3000 < bulkL l),()),()):=by
  refine Wp.out (T:=fun o=>o = some ((decide (3000 < bulkL l),()),())) ?_
  unfold pontagelaw29_tooLarge
  have hl:=len_bulk l
  refine Wp.iter (fun x=>∃ i,i ≤ l.length∧x = ((l,(i6 (bulkL (l.take i)),(i6 i,()))),())) (fun x=>l.length - x.1.2.2.1.val.toNat) ?_ ⟨0,Nat.zero_le _,rfl⟩ (by rw [K0_eq]; show l.length - (i6 0).val.toNat < _; omega)
  rintro x ⟨i,hi,rfl⟩
  have hb:=bulk_le l i
  simp only [i6_ofNat,lenL_eq,i6_ltb (show i < 9223372036854775808 by omega) (show l.length < 9223372036854775808 by omega),i6_nat (show i < 9223372036854775808 by omega)]
  refine Wp.brn (fun hc=>?_) (fun hc=>?_)
  · have hc:=of_decide_eq_true hc
    have hb2:=bulk_le l (i + 1)
    rw [bulk_take l i hc] at hb2
    refine Wp.brnT (i6_inB hc (by omega)) ?_
    rw [rdL_eq _ _ _ hc]
    refine Wp.again ⟨i + 1,hc,?_⟩ ?_
    · show ((l,(I.add (I.add (i6 (bulkL (l.take i))) (i6 l[i].length)) (i6 1),(I.add (i6 i) (i6 1),()))),()) = _
      rw [i6_add (by omega),i6_add (by omega),i6_add (by omega),bulk_take l i hc]
      rfl
    · show l.length - (I.add (i6 i) (i6 1)).val.toNat < l.length - (i6 i).val.toNat
      rw [i6_add (by omega),i6_val (by omega),i6_val (by omega)]; omega
  · have hc:=of_decide_eq_false hc
    have:l.take i = l:=List.take_of_length_le (by omega)
    rw [this]
    refine Wp.done ?_
    show some ((I.ltb (i6 3000) (i6 (bulkL l)),()),()) = _
    rw [i6_ltb (by omega) (by omega)]
theorem awake29:pontagelaw29_awake K0 ((),()) = some ((true,()),()):=by
  rw [K0_eq]
  kernel_rfl
theorem sel2 (b y:Byt) (i:Nat) (hi:i < 2) {P:Byt→Prop} (h1:P b) (h2:P y):P (@Arr.sel Byt [] 2 (b,(y,())) i):=by
  match i,hi with
  | 0,_=>exact h1
  | 1,_=>exact h2
theorem scriptDec_law (b:Byt) (l:List Byt) (a:I .i64) (c:I .u8) (hb:b.length ≤ LIM) (h:bulkL l ≤ 1048576):pontagelaw29_ScriptDecode K0 ((b,(l,(a,(c,())))),()) = some ((true,()),()):=by
  refine Wp.out (T:=fun o=>o = some ((true,()),())) ?_
  unfold pontagelaw29_ScriptDecode
  have hL:LIM = 140737488355328:=rfl
  have he:=encA_bulk l h
  refine Wp.jn (fun x=>b.length ≤ 600∧x = ((b,(l,(a,(c,())))),())) ?_ (fun j0 hj0=>?_)
  · rintro x ⟨hb6,rfl⟩
    refine Wp.optF (rEnc l (by omega)) ?_
    refine Wp.jn (fun x=>∃ y:Byt,y.length ≤ 1000000000∧x = ((b,()),(y,()))) ?_ (fun j2 hj2=>?_)
    · rintro x ⟨y,hy,rfl⟩
      refine Wp.iter (fun x=>∃ i,i ≤ 2∧x = (((b,(y,())),(i6 i,())),())) (fun x=>2 - x.1.2.1.val.toNat) ?_ ⟨0,Nat.zero_le _,rfl⟩ (by rw [K0_eq]; show 2 - (i6 0).val.toNat < _; omega)
      rintro x ⟨i,hi,rfl⟩
      have e2:I.of .i64 2 = i6 2:=rfl
      have e1:I.of .i64 1 = i6 1:=rfl
      simp only [e1,e2,i6_ltb (show i < 9223372036854775808 by omega) (show 2 < 9223372036854775808 by omega),i6_nat (show i < 9223372036854775808 by omega)]
      refine Wp.brn (fun hc=>?_) (fun hc=>Wp.done (Wp.optF awake29 rfl))
      have hc:=of_decide_eq_true hc
      refine Wp.brnT (i6_inB hc (by omega)) ?_
      have hzl:(@Arr.sel Byt [] 2 (b,(y,())) i).length ≤ 1000000000:=sel2 b y i hc (P:=fun z=>z.length ≤ 1000000000) (by omega) hy
      obtain ⟨z,hz⟩:∃ z,@Arr.sel Byt [] 2 (b,(y,())) i = z:=⟨_,rfl⟩
      rw [hz] at hzl
      have hs:script_Decode K0 ((@Arr.sel Byt [] 2 (b,(y,())) i,()),()) = some (rdS (rdA z.length z 0),()):=by rw [hz]; exact sDec z (by omega)
      have hd:pontagelaw29_decodable K0 ((@Arr.sel Byt [] 2 (b,(y,())) i,()),()) = some (((rdA z.length z 0).isSome,()),()):=by rw [hz]; exact rDec z (by omega)
      have hμ:∀ X:List Byt,2 - (I.add (i6 i) (i6 1)).val.toNat < 2 - (i6 i).val.toNat:=fun _=>by rw [i6_add (by omega),i6_val (by omega),i6_val (by omega)]; omega
      have hag:((((b,(y,())),(I.add (i6 i) (i6 1),())),()):(((Byt × Byt × Unit) × I .i64 × Unit) × Unit)) = (((b,(y,())),(i6 (i + 1),())),()):=by rw [i6_add (by omega)]
      refine Wp.optF hs ?_
      cases hr:rdA z.length z 0 with
      | none =>
        refine Wp.brnT (by show I.neb (i6 3) (i6 0) = true; rw [i6_neb (by omega) (by omega)]; rfl) (Wp.brnF (by show I.neb (i6 3) (i6 3) = false; rw [i6_neb (by omega) (by omega)]; rfl) (Wp.brnF (by show I.ltb (i6 0) (i6 0) = false; rw [i6_ltb (by omega) (by omega)]; rfl) (Wp.optF hd ?_)))
        rw [hr]
        exact Wp.brnF rfl (Wp.again ⟨i + 1,hc,hag⟩ (hμ []))
      | some p =>
        have hp:=rdA_some _ _ _ _ hr (Nat.zero_le _)
        have hp:z = encA p:=hp
        have hq:pontagelaw0_EqualBytes K0 ((encA p,(@Arr.sel Byt [] 2 (b,(y,())) i,())),()) = some ((true,()),()):=eqB_true (hp.symm.trans hz.symm)
        refine Wp.brnF (by show I.neb (i6 0) (i6 0) = false; rw [i6_neb (by omega) (by omega)]; rfl) (Wp.optF (rEnc p (by rw [← hp]; omega)) (Wp.optF hq (Wp.brnF rfl (Wp.again ⟨i + 1,hc,hag⟩ (hμ [])))))
    · simp only [i6_ofNat,lenL_eq,show I.of .i64 0 = i6 0 from rfl,i6_ltb (show 0 < 9223372036854775808 by omega) (show (encA l).length < 9223372036854775808 by omega)]
      refine Wp.brn (fun hc=>?_) (fun hc=>hj2 _ ⟨encA l,by omega,rfl⟩)
      have hc:=of_decide_eq_true hc
      obtain ⟨k,hk,k0,k1⟩:=Mod_ok a (i6 (encA l).length) (by rw [i6_val (by omega)]; omega)
      rw [i6_val (by omega)] at k1
      refine Wp.optF hk (Wp.brnT (iff_inB.2 ⟨k0,k1⟩) (hj2 _ ⟨_,?_,rfl⟩))
      rw [setL,setAt_eq,List.length_set]
      omega
  · refine Wp.jn (fun x=>∃ t:Bool,x = ((b,(l,(a,(c,(t,()))))),())∧(t = false→b.length ≤ 600)) ?_ (fun j1 hj1=>?_)
    · rintro x ⟨t,rfl,ht⟩
      exact Wp.brn (fun _=>Wp.optF awake29 rfl) (fun hc=>hj0 _ ⟨ht hc,rfl⟩)
    · simp only [i6_ofNat,lenL_eq,show I.of .i64 600 = i6 600 from rfl,i6_ltb (show 600 < 9223372036854775808 by omega) (show b.length < 9223372036854775808 by omega)]
      refine Wp.brn (fun _=>hj1 _ ⟨true,rfl,fun h=>(by cases h)⟩) (fun hc=>Wp.optF (tooL l h) (hj1 _ ⟨_,rfl,fun _=>?_⟩))
      have hc:=of_decide_eq_false hc
      omega
end Sym

/- From what a row reads of the arguments to plain values, and from a contract to the row's answer. -/
namespace Sym
open Go
mutual
def argB (P:Program):Ty→TypeId→Bool
  | .cons a b,id=>match P.underlying id with
    | some (.struct fs)=>(match fs.toList with
      | f :: r=>argB P a f.type && fargB P b r
      | []=>false)
    | _=>false
  | .arr _ t,id=>match P.underlying id with
    | some (.array _ e)=>argB P t e
    | _=>false
  | .sl t,id=>match P.underlying id with
    | some (.slice e)=>Nat.ble 1 t.sz && (Nat.ble 1 (P.bytesOf e) && argB P t e)
    | _=>false
  | .opq,_=>false
  | .fnc,_=>false
  | _,_=>true
def fargB (P:Program):Ty→List Field→Bool
  | .cons a b,f :: r=>argB P a f.type && fargB P b r
  | _,_=>true
end
theorem mapM_some {X Y:Type} {f:X→Option Y}:∀ {l:List X} {r:List Y},l.mapM f = some r→r.length = l.length∧∀ (i:Nat) (a:X),l[i]? = some a→∃ b,r[i]? = some b∧f a = some b
  | [],r,h=>by
    simp only [List.mapM_nil,Option.pure_def,Option.some.injEq] at h
    subst h
    exact ⟨rfl,fun i a h=>by simp at h⟩
  | a :: l,r,h=>by
    simp only [List.mapM_cons,Option.bind_eq_bind,Option.bind_eq_some_iff,Option.pure_def,Option.some.injEq] at h
    obtain ⟨b,hb,s,hs,rfl⟩:=h
    obtain ⟨h1,h2⟩:=mapM_some hs
    refine ⟨by simp [h1],fun i x hx=>?_⟩
    cases i with
    | zero =>
      simp only [List.getElem?_cons_zero,Option.some.injEq] at hx
      subst hx
      exact ⟨b,by simp,hb⟩
    | succ i =>
      simp only [List.getElem?_cons_succ] at hx
      obtain ⟨y,h3,h4⟩:=h2 i x hx
      exact ⟨y,by simp [h3],h4⟩
theorem mapM_range {Y:Type} {f:Nat→Option Y} {n:Nat} {r:List Y} (h:(List.range n).mapM f = some r):r.length = n∧∀ i,i < n→∃ b,r[i]? = some b∧f i = some b:=by
  obtain ⟨h1,h2⟩:=mapM_some h
  refine ⟨by simpa using h1,fun i hi=>h2 i i (by simp [hi])⟩
theorem exists_list {X:Type}:∀ (n:Nat) (R:Nat→X→Prop),(∀ i,i < n→∃ x,R i x)→∃ l:List X,l.length = n∧∀ i x,l[i]? = some x→R i x
  | 0,_,_=>⟨[],rfl,fun i x h=>by simp at h⟩
  | n + 1,R,h=>by
    obtain ⟨x,hx⟩:=h 0 (by omega)
    obtain ⟨l,h1,h2⟩:=exists_list n (fun i x=>R (i + 1) x) fun i hi=>h (i + 1) (by omega)
    refine ⟨x :: l,by simp [h1],fun i y hy=>?_⟩
    cases i with
    | zero=>simp only [List.getElem?_cons_zero,Option.some.injEq] at hy; subst hy; exact hx
    | succ i=>exact h2 i y (by simpa using hy)
theorem exists_arr {X:Type} {E:X→List Value→Prop} {s:Nat}:∀ (n:Nat) (cs:List Value),cs.length = n * s→(∀ i,i < n→∃ x,E x ((cs.drop (i * s)).take s))→∃ x,EncArr E n x cs
  | 0,cs,hl,_=>⟨(),by simp at hl; exact hl⟩
  | n + 1,cs,hl,h=>by
    obtain ⟨x,hx⟩:=h 0 (by omega)
    simp only [Nat.zero_mul,List.drop_zero] at hx
    obtain ⟨y,hy⟩:=exists_arr (E:=E) (s:=s) n (cs.drop s) (by rw [List.length_drop,hl,Nat.succ_mul]; omega) fun i hi=>by
      obtain ⟨z,hz⟩:=h (i + 1) (by omega)
      refine ⟨z,?_⟩
      rw [List.drop_drop,show s + i * s = (i + 1) * s by rw [Nat.succ_mul]; omega]
      exact hz
    exact ⟨(x,y),cs.take s,cs.drop s,(List.take_append_drop s cs).symm,hx,hy⟩
theorem weightsAll_mem {H:Type} {P:Program} {e:TypeId}:∀ {ds:List (DataW H)} {i:Nat} {d:DataW H},ds[i]? = some d→∀ n ∈ d.weights P e,n ∈ DataW.weightsAll P e ds
  | d0 :: ds,0,d,hd,n,hn=>by
    simp only [List.getElem?_cons_zero,Option.some.injEq] at hd
    subst hd
    simp only [DataW.weightsAll,List.mem_append]
    exact .inl hn
  | d0 :: ds,i + 1,d,hd,n,hn=>by
    simp only [List.getElem?_cons_succ] at hd
    simp only [DataW.weightsAll,List.mem_append]
    exact .inr (weightsAll_mem hd n hn)
def strOf (s:ByteArray):List (I .u8):=s.data.toList.map fun b=>I.of .u8 b.toNat
theorem bytesOf_strOf (s:ByteArray):bytesOf (strOf s) = s:=by
  unfold bytesOf strOf
  cases s with | mk a =>
  congr 1
  rw [List.map_map]
  have:((fun c:I .u8=>UInt8.ofNat c.val.toNat) ∘ fun b:UInt8=>I.of .u8 b.toNat) = id:=by
    funext b
    simp only [Function.comp,id,I.of,IntKind.wrap,IntKind.bits,IntKind.signed,Bool.false_and,Bool.false_eq_true,if_false]
    have:=b.toNat_lt
    rw [show ((b.toNat:Int) % 2 ^ 8) = (b.toNat:Int) by omega,Int.toNat_natCast]
    exact UInt8.ofNat_toNat
  rw [this,List.map_id,Array.toArray_toList]
section
variable {H:Type} {enc:TypeId × Value→H} {P:Program} {W:World} {base:Nat} {spare:Nat→Bool} {held:Bool}
abbrev GW (W:World):Nat→Prop:=fun r=>r < W.heap.size
theorem cell_lt {a:Addr} {v:Value} (h:W.cell? a = some v):a.spot = none∧a.block < W.heap.size:=by
  unfold World.cell? at h
  split at h
  · rename_i c _ _ hc
    split at h
    · cases h
    · rename_i hs
      refine ⟨by simpa using hs,?_⟩
      rw [Array.getElem?_eq_some_iff] at hc
      exact hc.1
  · cases h
theorem cells_row {base:Nat} {a:Addr} {n:Nat} {ds:List Value} (h:W.cells? base a n = some ds):ds.length = n∧∀ j d,ds[j]? = some d→W.cell? (a.add j) = some d:=by
  unfold World.cells? at h
  split at h
  · obtain ⟨h1,h2⟩:=mapM_range h
    refine ⟨h1,fun j d hd=>?_⟩
    obtain ⟨b,h3,h4⟩:=h2 j (by rw [← h1]; exact (List.getElem?_eq_some_iff.1 hd).1)
    rw [h3] at hd
    rw [h4,hd]
  · cases h
theorem addr_add {a:Addr} (hs:a.spot = none) (n:Nat):a.add n = ⟨a.block,a.off + n,none⟩:=by
  unfold Addr.add
  cases a
  simp only at hs
  subst hs
  split
  · rename_i h; subst h; rfl
  · rfl
theorem enc_of_trod : ∀ (t : Ty),
    (∀ fuel id cs (d:DataW H) (p:List MemPlace),TOk P t id→argB P t id = true→DataW.trod enc P W base spare held fuel id cs = some (d,p)→(∀ n ∈ d.weights P id,n ≤ reachBytes)→∃ x,Enc W (GW W) t x cs) ∧
    (∀ fuel (r:List Field) (o:Nat) (cs:List Value) (xs:List (DataW H × List MemPlace)),FOk P t r o→fargB P t r = true→xs.length = r.length →
      (∀ (i:Nat) (f:Field),r[i]? = some f→DataW.trod enc P W base spare held fuel f.type ((cs.drop f.offset).take (P.cellsOf f.type)) = xs[i]?) →
      (∀ n ∈ DataW.weightsEach P (r.map (·.type)) (xs.map (·.1)),n ≤ reachBytes)→cs.length = o + t.sz→∃ x,Enc W (GW W) t x (cs.drop o)):=by
  intro t
  have nofld:∀ t,(∀ a b,t ≠ .cons a b)→t ≠ .nil→∀ (r:List Field) (o:Nat),¬ FOk P t r o:=by
    intro t h1 h2 r o h
    cases t <;> first | exact h1 _ _ rfl | exact h2 rfl | (cases r <;> exact h.elim)
  induction t with
  | int k =>
    refine ⟨fun fuel id cs d p hT _ h _=>?_,fun fuel r o cs xs h=>(nofld _ (by simp) (by simp) _ _ h).elim⟩
    obtain ⟨n,hcs,_,hw⟩:=DataW.trod_int hT.2 h
    simp only [Lit.wf,Bool.and_eq_true,decide_eq_true_eq] at hw
    exact ⟨(⟨n,wrap_eq_of_range hw⟩:I k),hcs⟩
  | bool =>
    refine ⟨fun fuel id cs d p hT _ h _=>?_,fun fuel r o cs xs h=>(nofld _ (by simp) (by simp) _ _ h).elim⟩
    obtain ⟨n,hcs,_⟩:=DataW.trod_bool hT.2 h
    exact ⟨n,hcs⟩
  | str =>
    refine ⟨fun fuel id cs d p hT _ h hw=>?_,fun fuel r o cs xs h=>(nofld _ (by simp) (by simp) _ _ h).elim⟩
    obtain ⟨s,hcs,hx,_⟩:=DataW.trod_string hT.2 h
    simp only [Prod.mk.injEq] at hx
    obtain ⟨rfl,rfl⟩:=hx
    refine ⟨strOf s,?_,?_⟩
    · rw [bytesOf_strOf]; exact hcs
    · have:=hw s.data.toList.length (by simp [DataW.weights])
      have h2:(strOf s).length = s.data.toList.length:=List.length_map _
      show (strOf s).length ≤ LIM
      rw [h2]
      simp only [reachBytes,LIM] at *
      omega
  | nil =>
    refine ⟨fun fuel id cs d p hT _ h hw=>?_,fun fuel r o cs xs h _ _ _ _ hl=>⟨(),?_⟩⟩
    · obtain ⟨xs,n,_,_,hl,_⟩:=DataW.trod_struct hT.2 h
      rw [hT.1] at hl
      exact ⟨(),List.eq_nil_of_length_eq_zero hl⟩
    · show cs.drop o = []
      simp only [Ty.sz,Nat.add_zero] at hl
      rw [List.drop_eq_nil_iff]; omega
  | cons a b iha ihb =>
    refine ⟨fun fuel id cs d p hT hA h hw=>?_,fun fuel r o cs xs hF hA hlen hf hw hl=>?_⟩
    · obtain ⟨hsz,fs,f,r,hu,hfs,hf0,hTa,hFb⟩:=hT
      obtain ⟨xs,n,_,hx,hl,hlen,hfx⟩:=DataW.trod_struct hu h
      simp only [Prod.mk.injEq] at hx
      obtain ⟨rfl,rfl⟩:=hx
      simp only [argB,hu,hfs,Bool.and_eq_true] at hA
      have hfl:∀ (i:Nat) (g:Field),(f :: r)[i]? = some g→DataW.trod enc P W base spare held n g.type ((cs.drop g.offset).take (P.cellsOf g.type)) = xs[i]?:=by
        intro i g hg
        refine hfx i g ?_
        rw [← Array.getElem?_toList,hfs]
        exact hg
      have hlen':xs.length = r.length + 1:=by rw [hlen,← Array.length_toList,hfs]; rfl
      match xs,hlen' with
      | y :: ys,hlen' =>
        simp only [DataW.weights,hu,hfs,List.map_cons,DataW.weightsEach,List.mem_append] at hw
        have h0:=hfl 0 f rfl
        simp only [List.getElem?_cons_zero] at h0
        rw [hf0,hTa.size,List.drop_zero] at h0
        obtain ⟨x,hx⟩:=iha.1 n f.type _ y.1 y.2 hTa hA.1 h0 (fun m hm=>hw m (.inl hm))
        obtain ⟨z,hz⟩:=ihb.2 n r a.sz cs ys hFb hA.2 (by simpa using hlen') (fun i g hg=>by simpa using hfl (i + 1) g hg) (fun m hm=>hw m (.inr hm)) (by rw [hl,hsz])
        exact ⟨(x,z),_,_,(List.take_append_drop a.sz cs).symm,hx,hz⟩
    · cases r with
      | nil=>exact hF.elim
      | cons f r =>
        obtain ⟨hf0,hTa,hFb⟩:=hF
        simp only [fargB,Bool.and_eq_true] at hA
        match xs,hlen with
        | y :: ys,hlen =>
          simp only [List.map_cons,DataW.weightsEach,List.mem_append] at hw
          have h0:=hf 0 f rfl
          simp only [List.getElem?_cons_zero] at h0
          rw [hf0,hTa.size] at h0
          simp only [Ty.sz] at hl
          obtain ⟨x,hx⟩:=iha.1 fuel f.type _ y.1 y.2 hTa hA.1 h0 (fun m hm=>hw m (.inl hm))
          obtain ⟨z,hz⟩:=ihb.2 fuel r (o + a.sz) cs ys hFb hA.2 (by simpa using hlen) (fun i g hg=>by simpa using hf (i + 1) g hg) (fun m hm=>hw m (.inr hm)) (by omega)
          refine ⟨(x,z),_,_,(List.take_append_drop a.sz (cs.drop o)).symm,hx,?_⟩
          rw [List.drop_drop]
          exact hz
  | arr n t ih =>
    refine ⟨fun fuel id cs d p hT hA h hw=>?_,fun fuel r o cs xs h=>(nofld _ (by simp) (by simp) _ _ h).elim⟩
    obtain ⟨hsz,e,hu,hTe⟩:=hT
    obtain ⟨xs,m,_,hx,hl,hlen,hfx⟩:=DataW.trod_array hu h
    simp only [Prod.mk.injEq] at hx
    obtain ⟨rfl,rfl⟩:=hx
    simp only [argB,hu] at hA
    simp only [DataW.weights,hu] at hw
    refine exists_arr n cs (by rw [hl,hsz]) fun i hi=>?_
    have h0:=hfx i hi
    rw [hTe.size,List.getElem?_eq_getElem (by omega)] at h0
    refine ih.1 m e _ (xs[i]'(by omega)).1 (xs[i]'(by omega)).2 hTe hA h0 fun k hk=>hw k (weightsAll_mem (i:=i) ?_ k hk)
    rw [List.getElem?_map,List.getElem?_eq_getElem (by omega)]; rfl
  | sl t ih =>
    refine ⟨fun fuel id cs d p hT hA h hw=>?_,fun fuel r o cs xs h=>(nofld _ (by simp) (by simp) _ _ h).elim⟩
    obtain ⟨hsz,e,hu,hTe⟩:=hT
    simp only [argB,hu,Bool.and_eq_true] at hA
    obtain ⟨hA1,hA2,hA⟩:=hA
    have hA1:=Nat.le_of_ble_eq_true hA1
    have hA2:=Nat.le_of_ble_eq_true hA2
    rcases DataW.trod_slice hu h with ⟨rfl,_⟩ | ⟨a,len,cap,elems,rest,m,_,rfl,hx,_,hlc,_,hel,hfx,_,_⟩
    · refine ⟨([]:List t.D),none,0,rfl,Nat.le_refl _,by simp,.inl rfl⟩
    · simp only [Prod.mk.injEq] at hx
      obtain ⟨rfl,rfl⟩:=hx
      simp only [DataW.weights,hu,List.mem_cons,List.mem_append] at hw
      have hb:=hw _ (.inl rfl)
      have hlim:len ≤ LIM:=by
        have h1:len ≤ (elems.length + rest.length) * P.bytesOf e:=by
          rw [← hel]
          refine Nat.le_trans ?_ (Nat.mul_le_mul_left _ hA2)
          omega
        simp only [List.length_map] at hb
        simp only [reachBytes,LIM] at *
        omega
      have key:∀ i,i < len→a.spot = none∧a.block < W.heap.size∧∃ x ds,Enc W (GW W) t x ds∧cellsAt W a.block (a.off + i * t.sz) ds:=by
        have one:∀ i,i < len→∃ (ds:List Value) (x:t.D),ds.length = t.sz∧Enc W (GW W) t x ds∧∀ j d,ds[j]? = some d→W.cell? ((a.add (i * t.sz)).add j) = some d:=by
          intro i hi
          have h0:=hfx i hi
          rw [List.getElem?_eq_getElem (by omega)] at h0
          simp only [Option.bind_eq_some_iff] at h0
          obtain ⟨ds,h1,h2⟩:=h0
          obtain ⟨h3,h4⟩:=cells_row h1
          rw [hTe.size] at h3 h4
          obtain ⟨x,hx⟩:=ih.1 m e ds (elems[i]'(by omega)).1 (elems[i]'(by omega)).2 hTe hA h2 fun k hk=>hw k (.inr (.inl (weightsAll_mem (i:=i) (by rw [List.getElem?_map,List.getElem?_eq_getElem (by omega)]; rfl) k hk)))
          exact ⟨ds,x,h3,hx,h4⟩
        intro i hi
        obtain ⟨ds,x,h1,h2,h3⟩:=one i hi
        obtain ⟨ds0,_,g1,_,g3⟩:=one 0 (by omega)
        have c0:=g3 0 (ds0[0]'(by omega)) (List.getElem?_eq_getElem _)
        simp only [Nat.zero_mul] at c0
        have e0:(a.add 0).add 0 = a:=by simp [Addr.add]
        rw [e0] at c0
        obtain ⟨hs,hlt⟩:=cell_lt c0
        refine ⟨hs,hlt,x,ds,h2,fun j d hd=>?_⟩
        have:=h3 j d hd
        rw [addr_add hs,addr_add rfl] at this
        exact this
      obtain ⟨l,hl1,hl2⟩:=exists_list len (fun i x=>∃ ds,Enc W (GW W) t x ds∧cellsAt W a.block (a.off + i * t.sz) ds) fun i hi=>(key i hi).2.2
      refine ⟨l,some a,cap,?_,?_,?_,?_⟩
      · show [Value.slice (some a) len cap] = [Value.slice (some a) l.length cap]; rw [hl1]
      · show l.length ≤ cap; omega
      · show l.length ≤ LIM; omega
      · by_cases h0:len = 0
        · left; show l = []; exact List.eq_nil_of_length_eq_zero (by omega)
        · obtain ⟨h1,h2,_⟩:=key 0 (by omega)
          exact .inr ⟨a,rfl,h1,h2,hl2⟩
  | opq=>exact ⟨fun fuel id cs d p hT hA=>by simp [argB] at hA,fun fuel r o cs xs h=>(nofld _ (by simp) (by simp) _ _ h).elim⟩
  | fnc=>exact ⟨fun fuel id cs d p hT hA=>by simp [argB] at hA,fun fuel r o cs xs h=>(nofld _ (by simp) (by simp) _ _ h).elim⟩
end
theorem val_of_ok {P:Program} {W:World} {rr:Reach} {base:Nat} {id:TypeId} {v:Value} {t:Ty} (hT:TOk P t id) (hne:t ≠ .opq) (hnf:t ≠ .fnc) (h:Value.okWide P W rr base id v):v = mkV t.isAgg v.cells.toList:=by
  have agg:(∃ cs,v = .agg cs)→v = mkV true v.cells.toList:=by
    rintro ⟨cs,rfl⟩
    show Value.agg cs = .agg _
    congr 1
  cases t with
  | int k=>obtain ⟨n,rfl⟩:=Go.WideShapes.okWide_int hT.2 h; rfl
  | bool=>obtain ⟨n,rfl⟩:=Go.WideShapes.okWide_bool hT.2 h; rfl
  | str=>obtain ⟨n,rfl⟩:=Go.WideShapes.okWide_string hT.2 h; rfl
  | sl t=>obtain ⟨_,e,hu,_⟩:=hT; obtain ⟨a,l,c,rfl⟩:=Go.WideShapes.okWide_slice hu h; rfl
  | opq=>exact (hne rfl).elim
  | fnc=>exact (hnf rfl).elim
  | nil=>obtain ⟨_,hu⟩:=hT; simp only [Value.okWide,hu] at h; exact agg ⟨_,h.choose_spec.1⟩
  | cons a b=>obtain ⟨_,fs,f,r,hu,_⟩:=hT; simp only [Value.okWide,hu] at h; exact agg ⟨_,h.choose_spec.1⟩
  | arr n t=>obtain ⟨_,e,hu,_⟩:=hT; simp only [Value.okWide,hu] at h; exact agg ⟨_,h.choose_spec.1⟩
def Arr.all {X:Type} (p:X→Prop):(n:Nat)→Arr X n→Prop
  | 0,_=>True
  | n + 1,x=>p x.1∧Arr.all p n x.2
def Ty.bd:(t:Ty)→t.D→Prop
  | .str,x=>(show List (I .u8) from x).length ≤ LIM
  | .cons a b,x=>a.bd x.1∧b.bd x.2
  | .arr n t,x=>Arr.all t.bd n x
  | .sl t,x=>(show List t.D from x).length ≤ LIM∧∀ (i:Nat) (y:t.D),(show List t.D from x)[i]? = some y→t.bd y
  | .int _,_=>True
  | .bool,_=>True
  | .nil,_=>True
  | .opq,_=>True
  | .fnc,_=>True
theorem EncArr_all {X:Type} {E:X→List Value→Prop} {p:X→Prop} (h:∀ x cs,E x cs→p x):∀ (n:Nat) (x:Arr X n) (cs:List Value),EncArr E n x cs→Arr.all p n x
  | 0,_,_,_=>trivial
  | n + 1,x,cs,he=>by
    obtain ⟨c1,c2,_,h1,h2⟩:=he
    exact ⟨h _ _ h1,EncArr_all h n x.2 c2 h2⟩
theorem Enc_bd {W:World} {G:Nat→Prop}:∀ (t:Ty) (x:t.D) (cs:List Value),Enc W G t x cs→t.bd x:=by
  intro t
  induction t with
  | int k=>intro x cs _; trivial
  | bool=>intro x cs _; trivial
  | nil=>intro x cs _; trivial
  | opq=>intro x cs _; trivial
  | fnc=>intro x cs _; trivial
  | str=>intro x cs h; exact h.2
  | cons a b iha ihb=>intro x cs h; obtain ⟨c1,c2,_,h1,h2⟩:=h; exact ⟨iha _ _ h1,ihb _ _ h2⟩
  | arr n t ih=>intro x cs h; exact EncArr_all (fun x cs=>ih x cs) n x cs h
  | sl t ih =>
    intro x cs h
    obtain ⟨a,c,_,_,hl,hx⟩:=h
    refine ⟨hl,fun i y hy=>?_⟩
    rcases hx with hx | ⟨ad,_,_,_,hr⟩
    · rw [hx] at hy; simp at hy
    · obtain ⟨ds,h1,_⟩:=hr i y hy
      exact ih y ds h1
def bdAll:(ts:List Ty)→ShD (ts.map .pl)→Prop
  | [],_=>True
  | t :: ts,x=>t.bd x.1∧bdAll ts x.2
def argsB (P:Program):List Ty→List TypeId→Bool
  | [],[]=>true
  | t :: ts,id :: ids=>tokB P t id && (argB P t id && (P.readableRec id && (Nat.blt id P.types.size && argsB P ts ids)))
  | _,_=>false
section
variable {H:Type} {enc:TypeId × Value→H} {P:Program} {W:World}
def cx0 (W:World):Cx:=⟨W,GW W,fun _=>.bool false,[]⟩
theorem args_val {rr : Reach} {base : Nat} : ∀ (ts : List Ty) (ids : List TypeId) (vs : List Value) (ds : List (DataW H)) (ps : List MemPlace), argsB P ts ids = true →
    DataW.TrodAll enc P W 0 (fun _=>true) true ids vs ds ps→(∀ (j:Nat) t v,ids[j]? = some t→vs[j]? = some v→Value.okWide P W rr base t v) →
    (∀ n ∈ DataW.weightsEach P ids ds,n ≤ reachBytes)→ds.length = ts.length∧∃ x:ShD (ts.map .pl),bdAll ts x∧All2 (VOk (cx0 W)) (mkSlots (ts.map .pl) x) vs
  | [],[],vs,ds,ps,_,hA,_,_=>by
    obtain ⟨rfl,rfl,rfl⟩:=Go.ChangeShapes.trodAll_nil hA
    exact ⟨rfl,(),trivial,trivial⟩
  | [],_ :: _,_,_,_,h,_,_,_=>by cases h
  | _ :: _,[],_,_,_,h,_,_,_=>by cases h
  | t :: ts,id :: ids,vs,ds,ps,h,hA,hv,hw=>by
    simp only [argsB,Bool.and_eq_true] at h
    obtain ⟨h1,h2,_,_,h5⟩:=h
    obtain ⟨v,vs',d,ds',p,q,rfl,rfl,rfl,⟨fuel,hd⟩,hrest⟩:=Go.ChangeShapes.trodAll_cons hA
    simp only [DataW.weightsEach,List.mem_append] at hw
    have hT:=(tok_both P t).1 id h1
    obtain ⟨x,hx⟩:=(enc_of_trod t).1 fuel id _ d p hT h2 hd fun n hn=>hw n (.inl hn)
    obtain ⟨hl,y,hbd,hy⟩:=args_val ts ids vs' ds' q h5 hrest (fun j t v ht hv'=>hv (j + 1) t v (by simpa using ht) (by simpa using hv')) fun n hn=>hw n (.inr hn)
    refine ⟨by simp [hl],(x,y),⟨Enc_bd t x _ hx,hbd⟩,?_,hy⟩
    refine ⟨_,hx,?_⟩
    exact val_of_ok hT (by rintro rfl; simp [argB] at h2) (by rintro rfl; simp [argB] at h2) (hv 0 id v rfl rfl)
theorem trodAll_below (hl : laidOutB P = true) {W' : World} (hb : Go.RowKit.Below W.heap.size W W') : ∀ (ts : List Ty) (ids : List TypeId) (vs : List Value) (ds : List (DataW H)) (ps : List MemPlace), argsB P ts ids = true →
    DataW.TrodAll enc P W 0 (fun _=>true) true ids vs ds ps→(∀ x ∈ ps,x.block < W.heap.size)→DataW.TrodAll enc P W' 0 (fun b=>decide (b < W.heap.size)) true ids vs ds ps
  | [],[],vs,ds,ps,_,hA,_=>by
    obtain ⟨rfl,rfl,rfl⟩:=Go.ChangeShapes.trodAll_nil hA
    exact Go.ChangeShapes.trodAll_mk0
  | [],_ :: _,_,_,_,h,_,_=>by cases h
  | _ :: _,[],_,_,_,h,_,_=>by cases h
  | t :: ts,id :: ids,vs,ds,ps,h,hA,hlt=>by
    simp only [argsB,Bool.and_eq_true] at h
    obtain ⟨_,_,h3,h4,h5⟩:=h
    obtain ⟨v,vs',d,ds',p,q,rfl,rfl,rfl,hd,hrest⟩:=Go.ChangeShapes.trodAll_cons hA
    refine ⟨p,q,Go.RowKit.Below.trod hl h3 (Nat.lt_of_succ_le (Nat.le_of_ble_eq_true h4)) hd hb fun x hx=>hlt x (by simp [hx]),?_,rfl⟩
    exact trodAll_below hl hb ts ids vs' ds' q h5 hrest fun x hx=>hlt x (by simp [hx])
theorem start0:Start (cx0 W):=by
  have hu:∀ b,blkAt (cx0 W).H b = .unborn:=fun b=>by simp [cx0,blkAt]
  refine ⟨fun b=>?_,fun b b' r h=>?_,fun r hr=>⟨hr,fun b h=>?_⟩⟩
  · unfold BlkOk; rw [hu]; trivial
  · rw [hu] at h; cases h
  · rw [hu] at h; cases h
theorem row_of_con2 {C : Checked} {f : FuncId} {fn : Func} {s : ChangeSpec} {ts : List Ty} {bt : TypeId} {F : (⟨ts.map .pl, []⟩ : Tm).D → Option (⟨[.pl .bool], []⟩ : Tm).D}
    (hl : laidOutB C.prog = true) (hfn : C.prog.funcs[f]? = some fn) (hbody : fn.body.isSome = true) (hname : (fn.name == "runtime.NumGoroutine") = false)
    (hargs:argsB C.prog ts fn.params.toList = true) (hres:fn.resultTypes = #[bt]) (hbt:C.prog.underlying bt = some .bool) (hvars:s.vars = [])
    (hs:∀ ds:List (DataW H),ds.length = ts.length→s.fn H ds = { results:=[.lit (.bool true)],args:=ds })
    (hcon:ConOk C.prog f ⟨⟨ts.map .pl,[]⟩,⟨[.pl .bool],[]⟩,F⟩)
    (base:Nat) (args:Array Value) (ds gs:List (DataW H)) (before:List MemPlace)
    (hval:∀ (j:Nat) t v,fn.params[j]? = some t→args[j]? = some v→Value.okWide C.prog W .any base t v)
    (hW:DataW.Whole enc C.prog fn.params.toList s.vars false W args.toList ds gs before)
    (hF:∀ x p,DataW.TrodAll enc C.prog W 0 (fun _=>true) true fn.params.toList args.toList ds p→bdAll ts x→All2 (VOk (cx0 W)) (mkSlots (ts.map .pl) x) args.toList→F (x,()) = some ((true,()),()))
    (hsz:(DataW.weightsEach C.prog (fn.params.toList ++ s.plain.varTypes C.prog) (ds ++ gs)).all (· ≤ reachBytes) = true) :
    Calls C.prog f args W fun e W'=>∃ v,e = .returned v∧s.post enc C.prog fn false true false false W args v W':=by
  have hW':=hW
  obtain ⟨p,q,hA,hV,rfl,hfz,hnd⟩:=hW
  rw [hvars] at hV
  obtain ⟨rfl,rfl⟩:=Go.ChangeShapes.trodVars_none hV
  have hvt:s.plain.varTypes C.prog = []:=by simp [DataSpec.varTypes,ChangeSpec.plain,hvars]
  rw [hvt,List.append_nil,List.append_nil,List.all_eq_true] at hsz
  obtain ⟨hlen,x,hbd,hx⟩:=args_val (P:=C.prog) ts fn.params.toList args.toList ds p hargs hA
    (fun j t v h1 h2=>hval j t v (by rw [← Array.getElem?_toList]; exact h1) (by rw [← Array.getElem?_toList]; exact h2)) fun n hn=>of_decide_eq_true (hsz n hn)
  have key:=hcon (x,()) ((true,()),()) (hF x p hA hbd hx) (cx0 W) args.toList start0 rfl hx
  rw [Array.toArray_toList] at key
  obtain ⟨b,hb⟩:=Option.isSome_iff_exists.1 hbody
  have hent:=run_callFunc (args:=args) (w:=W) hfn hb hname
  rcases key with ⟨v,w',h1,_⟩ | ⟨_,h⟩
  · change (callFunc f args).run C.prog W = _ at h1
    rw [hent] at h1
    cases h1
  · refine h.mono fun e w' hr=>?_
    obtain ⟨v,he,c',hw,hH,hv,hM,_⟩:=hr
    subst he hw
    refine ⟨v,rfl,?_⟩
    have hown:∀ r,¬ ownOf (cx0 W) r:=by
      rintro r ⟨b,hb,_⟩
      simp [cx0,blkAt,live] at hb
    have bel:Go.RowKit.Below W.heap.size W c'.w:=⟨hM.os,hM.tape,hM.output,hM.size,fun k hk=>hM.frame k hk (hown k)⟩
    obtain ⟨cs,hcs,hv⟩:=hv
    have hcs:cs = [.bool true]:=hcs
    subst hcs
    have hv:v = .bool true:=hv
    subst hv
    have hfnH:=hs ds hlen
    refine ⟨ds,[],_,[],p,[],hW',?_,?_,?_,bel.frame _,fun h=>by cases h⟩
    · rw [List.append_nil,hfnH,hres]
      exact Go.ChangeShapes.trodAll_mk1 (Go.RowKit.shut_bool hbt _)
    · rw [List.append_nil,hfnH]
      refine trodAll_below hl bel ts _ _ _ _ hargs hA fun x hx=>?_
      exact DataW.TrodAll.lt hA x hx
    · rw [List.append_nil,hfnH,hvars]
      rfl
end
end Sym

/- The lift for a statement that bounds what comes in: how much lists of lists hold. -/
namespace Sym
open Go
section
variable {H:Type} {enc:TypeId × Value→H} {P:Program} {W:World} {base:Nat} {spare:Nat→Bool} {held:Bool} {B:DataW H→Nat}
theorem len_of_trod (hB : ∀ es sp, (es.map B).sum + 1 ≤ B (.slice es sp)) (h1 : ∀ d, 1 ≤ B d) {t : Ty} {id : TypeId} (hT : TOk P (.sl t) id) {fuel : Nat} {cs : List Value} {d : DataW H} {p : List MemPlace}
    (h:DataW.trod enc P W base spare held fuel id cs = some (d,p)) {x:List t.D} (hx:Enc W (GW W) (.sl t) x cs):x.length + 1 ≤ B d:=by
  obtain ⟨hsz,e,hu,hTe⟩:=hT
  obtain ⟨a',c',hcs,_,_,_⟩:=hx
  have len_le:∀ l:List (DataW H),l.length ≤ (l.map B).sum:=by
    intro l
    induction l with
    | nil=>exact Nat.le_refl _
    | cons y l ih=>have:=h1 y; show l.length + 1 ≤ B y + (l.map B).sum; omega
  rcases DataW.trod_slice hu h with ⟨rfl,_⟩ | ⟨a,len,cap,elems,rest,m,_,rfl,hx,_,hlc,_,hel,hfx,_,_⟩
  · have : x.length = 0 := by
      have e:=(List.cons.inj hcs).1
      injection e with e1 e2 e3
      exact e2.symm
    have:=h1 d
    omega
  · have hxl : x.length = len := by
      have e:=(List.cons.inj hcs).1
      injection e with e1 e2 e3
      exact e2.symm
    simp only [Prod.mk.injEq] at hx
    obtain ⟨rfl,rfl⟩:=hx
    have h2:=hB (elems.map (·.1)) (rest.map (·.1))
    have h3:=len_le (elems.map (·.1))
    rw [List.length_map] at h3
    omega
theorem sum_le:∀ (l:List Nat) (r:List Nat),l.length ≤ r.length→(∀ (i a b:Nat),l[i]? = some a→r[i]? = some b→a ≤ b)→l.sum ≤ r.sum
  | [],_,_,_=>Nat.zero_le _
  | _ :: _,[],h,_=>by simp at h
  | a :: l,b :: r,h,hp=>by
    have h1:=hp 0 a b rfl rfl
    have h2:=sum_le l r (by simpa using h) fun i x y hx hy=>hp (i + 1) x y (by simpa using hx) (by simpa using hy)
    show a + l.sum ≤ b + r.sum
    omega
theorem bulk_of_trod (hB : ∀ es sp, (es.map B).sum + 1 ≤ B (.slice es sp)) (h1 : ∀ d, 1 ≤ B d) {t : Ty} {id : TypeId} (hT : TOk P (.sl (.sl t)) id) {fuel : Nat} {cs : List Value} {d : DataW H} {p : List MemPlace}
    (h:DataW.trod enc P W base spare held fuel id cs = some (d,p)) {x:List (List t.D)} (hx:Enc W (GW W) (.sl (.sl t)) x cs):(x.map fun y=>y.length + 1).sum ≤ B d:=by
  obtain ⟨hsz,e,hu,hTe⟩:=hT
  obtain ⟨a',c',hcs,_,_,hrow⟩:=hx
  rcases DataW.trod_slice hu h with ⟨rfl,_⟩ | ⟨a,len,cap,elems,rest,m,_,rfl,hx,_,hlc,_,hel,hfx,_,_⟩
  · have : x.length = 0 := by
      have e:=(List.cons.inj hcs).1
      injection e with e1 e2 e3
      exact e2.symm
    rw [List.eq_nil_of_length_eq_zero this]
    exact Nat.zero_le _
  · have hxl : x.length = len ∧ a' = some a := by
      have e:=(List.cons.inj hcs).1
      injection e with e1 e2 e3
      exact ⟨e2.symm,e1.symm⟩
    obtain ⟨hxl,ha'⟩:=hxl
    simp only [Prod.mk.injEq] at hx
    obtain ⟨rfl,rfl⟩:=hx
    refine Nat.le_trans ?_ (Nat.le_of_succ_le (hB (elems.map (·.1)) (rest.map (·.1))))
    rw [List.map_map]
    refine sum_le _ _ (by rw [List.length_map,List.length_map]; omega) fun i u v hu1 hv1=>?_
    rw [List.getElem?_map] at hu1 hv1
    obtain ⟨y,hy,rfl⟩:=Option.map_eq_some_iff.1 hu1
    obtain ⟨el,hel1,rfl⟩:=Option.map_eq_some_iff.1 hv1
    have hi:i < len:=by rw [← hxl]; exact (List.getElem?_eq_some_iff.1 hy).1
    have h0:=hfx i hi
    rw [hel1] at h0
    simp only [Option.bind_eq_some_iff] at h0
    obtain ⟨ds,g1,g2⟩:=h0
    obtain ⟨g3,g4⟩:=cells_row g1
    rw [hTe.size] at g3 g4
    rcases hrow with hrow | ⟨ad,hae,hspot,_,hrow⟩
    · rw [hrow] at hxl; exact absurd hi (by rw [← hxl]; exact Nat.not_lt_zero _)
    · rw [ha'] at hae
      cases hae
      obtain ⟨ds',k1,k2⟩:=hrow i y hy
      have k3:=Enc_len _ _ _ k1
      have hds:ds' = ds:=by
        have s1:(Ty.sl t).sz = 1:=rfl
        rw [s1] at g3 g4 k3
        match ds,g3,ds',k3 with
        | [q],_,[q'],_ =>
          have e1:=g4 0 q rfl
          have e2:=k2 0 q' rfl
          rw [addr_add hspot,addr_add rfl] at e1
          have e3:some q = some q':=e1.symm.trans e2
          cases e3; rfl
      rw [hds] at k1
      exact len_of_trod hB h1 hTe g2 k1
def bk:(t:Ty)→t.D→Nat
  | .sl (.sl t),x=>((show List (List t.D) from x).map fun y=>y.length + 1).sum
  | _,_=>0
def bkAll:(ts:List Ty)→ShD (ts.map .pl)→Nat
  | [],_=>0
  | t :: ts,x=>bk t x.1 + bkAll ts x.2
theorem bk_le (hB : ∀ es sp, (es.map B).sum + 1 ≤ B (.slice es sp)) (h1 : ∀ d, 1 ≤ B d) {t : Ty} {id : TypeId} (hT : TOk P t id) {fuel : Nat} {v : Value} {d : DataW H} {p : List MemPlace}
    (h:DataW.trod enc P W base spare held fuel id v.cells.toList = some (d,p)) {x:t.D} (hx:VOk (cx0 W) (.val t x) v):bk t x ≤ B d:=by
  match t,hT,x,hx with
  | .sl (.sl u),hT,x,hx =>
    obtain ⟨cs,hE,hv⟩:=hx
    have hE:Enc W (GW W) (.sl (.sl u)) x cs:=hE
    have hE':=hE
    obtain ⟨a,c,hcs,_⟩:=hE'
    have hv:v = cs.headD undef:=hv
    rw [hcs] at hv
    have hv:v = Value.slice a (show List (List u.D) from x).length c:=hv
    rw [hv] at h
    rw [hcs] at hE
    exact bulk_of_trod hB h1 hT h hE
  | .int _,_,_,_=>exact Nat.zero_le _
  | .bool,_,_,_=>exact Nat.zero_le _
  | .str,_,_,_=>exact Nat.zero_le _
  | .nil,_,_,_=>exact Nat.zero_le _
  | .cons _ _,_,_,_=>exact Nat.zero_le _
  | .arr _ _,_,_,_=>exact Nat.zero_le _
  | .opq,_,_,_=>exact Nat.zero_le _
  | .fnc,_,_,_=>exact Nat.zero_le _
  | .sl (.int _),_,_,_=>exact Nat.zero_le _
  | .sl .bool,_,_,_=>exact Nat.zero_le _
  | .sl .str,_,_,_=>exact Nat.zero_le _
  | .sl .nil,_,_,_=>exact Nat.zero_le _
  | .sl (.cons _ _),_,_,_=>exact Nat.zero_le _
  | .sl (.arr _ _),_,_,_=>exact Nat.zero_le _
  | .sl .opq,_,_,_=>exact Nat.zero_le _
  | .sl .fnc,_,_,_=>exact Nat.zero_le _
end
theorem args_bulk {H : Type} {enc : TypeId × Value → H} {P : Program} {W : World} {B : DataW H → Nat} (hB : ∀ es sp, (es.map B).sum + 1 ≤ B (.slice es sp)) (h1 : ∀ d, 1 ≤ B d) :
    ∀ (ts:List Ty) (ids:List TypeId) (vs:List Value) (ds:List (DataW H)) (ps:List MemPlace) (x:ShD (ts.map .pl)),argsB P ts ids = true →
    DataW.TrodAll enc P W 0 (fun _=>true) true ids vs ds ps→All2 (VOk (cx0 W)) (mkSlots (ts.map .pl) x) vs→bkAll ts x ≤ (ds.map B).sum
  | [],_,_,_,_,_,_,_,_=>Nat.zero_le _
  | _ :: _,[],_,_,_,_,h,_,_=>by cases h
  | t :: ts,id :: ids,vs,ds,ps,x,h,hA,hx=>by
    simp only [argsB,Bool.and_eq_true] at h
    obtain ⟨g1,g2,_,_,g5⟩:=h
    obtain ⟨v,vs',d,ds',p,q,rfl,rfl,rfl,⟨fuel,hd⟩,hrest⟩:=Go.ChangeShapes.trodAll_cons hA
    have hT:=(tok_both P t).1 id g1
    have k1:=bk_le hB h1 hT hd (x:=x.1) hx.1
    have k2:=args_bulk hB h1 ts ids vs' ds' q x.2 g5 hrest hx.2
    show bk t x.1 + bkAll ts x.2 ≤ B d + (ds'.map B).sum
    omega
end Sym
