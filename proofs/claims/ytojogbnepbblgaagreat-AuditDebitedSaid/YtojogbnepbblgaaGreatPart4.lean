/- The given functions as plain functions, as the printer told them. -/
import Derived.Test.YtojogbnepbblgaaGreatPart3
namespace Sym
open Go
noncomputable def pontagelaw0_Mod (K : Nat) (x : (⟨[.pl (.int .i64), .pl (.int .i64)], []⟩ : Tm).D) : Option (⟨[.pl (.int .i64)], []⟩ : Tm).D :=
 let a : I .i64 := x.1.1
 let b : I .i64 := x.1.2.1
 brn (@I.nz .u64 (I.conv (k := .i64) .u64 b))
  (some (((I.conv (k := .u64) .i64 (@I.rem .u64 (I.conv (k := .i64) .u64 a) (I.conv (k := .i64) .u64 b))), ()), ()))
  (none)
noncomputable def pontagelaw0_RepetitiveBytes (K : Nat) (x : (⟨[.pl (.sl (.int .i64))], []⟩ : Tm).D) : Option (⟨[.pl (.sl (.int .u8))], []⟩ : Tm).D :=
 let a : List (I .i64) := x.1.1
 iter (none) (fun x0 =>
   brn (@I.ltb .i64 x0.1.2.1 (I.ofNat .i64 (@lenL (I .i64) x0.1.1)))
    (brn (@inB .i64 x0.1.2.1 (@lenL (I .i64) x0.1.1))
     (optF (.done (none)) (pontagelaw0_Mod K (((@rdL (I .i64) (I.of .i64 0) x0.1.1 (@I.nat .i64 x0.1.2.1)), ((I.of .i64 1048576), ())), ())) fun y1 =>
     jn (fun (x2 : (((List (I .i64)) × ((I .i64) × ((I .i64) × ((I .i64) × ((I .i64) × (Bool × Unit)))))) × ((List (I .u8)) × Unit))) =>
       brn x2.1.2.2.2.2.2.1
        (iter (.done (none)) (fun x3 =>
          brn (@I.ltb .i64 x3.1.2.2.2.2.1 x3.1.2.2.2.1)
           (brn (fitsLen (@lenL (I .u8) (@appL (I .u8) x3.2.1 ((I.conv (k := .i64) .u8 (@I.add .i64 (I.of .i64 97) (@I.rem .i64 (@I.quo .i64 x3.1.2.2.1 (I.of .i64 256)) (I.of .i64 3)))) :: []))))
            (.again ((x3.1.1, (x3.1.2.1, (x3.1.2.2.1, (x3.1.2.2.2.1, ((@I.add .i64 x3.1.2.2.2.2.1 (I.of .i64 1)), ()))))), ((@appL (I .u8) x3.2.1 ((I.conv (k := .i64) .u8 (@I.add .i64 (I.of .i64 97) (@I.rem .i64 (@I.quo .i64 x3.1.2.2.1 (I.of .i64 256)) (I.of .i64 3)))) :: [])), ())))
            (.done (.done (none))))
           (.done (.again ((x3.1.1, ((@I.add .i64 x3.1.2.1 (I.of .i64 1)), ())), (x3.2.1, ())))))
        K ((x2.1.1, (x2.1.2.1, (x2.1.2.2.1, (x2.1.2.2.2.1, ((I.of .i64 0), ()))))), (x2.2.1, ())))
        (jn (fun (x3 : (((List (I .i64)) × ((I .i64) × ((I .i64) × ((I .i64) × (Bool × Unit))))) × ((List (I .u8)) × Unit))) =>
          brn x3.1.2.2.2.2.1
           (jn (fun (x4 : (((List (I .i64)) × ((I .i64) × ((I .i64) × ((I .i64) × Unit)))) × ((List (I .u8)) × Unit))) =>
             iter (.done (none)) (fun x5 =>
               jn (fun (x6 : (((List (I .i64)) × ((I .i64) × ((I .i64) × ((I .i64) × ((I .i64) × ((I .i64) × ((I .i64) × ((I .i64) × ((I .i64) × (Bool × Unit)))))))))) × ((List (I .u8)) × Unit))) =>
                 brn (@inB .i64 (@I.add .i64 x6.1.2.2.2.1 x6.1.2.2.2.2.1) (@lenL (I .u8) x6.2.1))
                  (brn (fitsLen (@lenL (I .u8) (@appL (I .u8) x6.2.1 ((@rdL (I .u8) (I.of .u8 0) x6.2.1 (@I.nat .i64 (@I.add .i64 x6.1.2.2.2.1 x6.1.2.2.2.2.1))) :: []))))
                   (.again ((x6.1.1, (x6.1.2.1, (x6.1.2.2.1, (x6.1.2.2.2.1, ((@I.add .i64 x6.1.2.2.2.2.1 (I.of .i64 1)), ()))))), ((@appL (I .u8) x6.2.1 ((@rdL (I .u8) (I.of .u8 0) x6.2.1 (@I.nat .i64 (@I.add .i64 x6.1.2.2.2.1 x6.1.2.2.2.2.1))) :: [])), ())))
                   (.done (.done (none))))
                  (.done (.done (none)))) fun j6 =>
               brn (@I.ltb .i64 x5.1.2.2.2.2.1 x5.1.2.2.1)
                (brn (@I.ltb .i64 (@I.add .i64 x5.1.2.2.2.1 x5.1.2.2.2.2.1) (I.ofNat .i64 (@lenL (I .u8) x5.2.1)))
                 (j6 ((x5.1.1, (x5.1.2.1, (x5.1.2.2.1, (x5.1.2.2.2.1, (x5.1.2.2.2.2.1, (x5.1.2.2.2.1, (x5.1.2.2.2.2.1, ((@I.add .i64 x5.1.2.2.2.1 x5.1.2.2.2.2.1), ((I.ofNat .i64 (@lenL (I .u8) x5.2.1)), ((@I.ltb .i64 (@I.add .i64 x5.1.2.2.2.1 x5.1.2.2.2.2.1) (I.ofNat .i64 (@lenL (I .u8) x5.2.1))), ())))))))))), (x5.2.1, ())))
                 (.done (.again ((x5.1.1, ((@I.add .i64 x5.1.2.1 (I.of .i64 1)), ())), (x5.2.1, ())))))
                (.done (.again ((x5.1.1, ((@I.add .i64 x5.1.2.1 (I.of .i64 1)), ())), (x5.2.1, ())))))
             K ((x4.1.1, (x4.1.2.1, (x4.1.2.2.1, (x4.1.2.2.2.1, ((I.of .i64 0), ()))))), (x4.2.1, ()))) fun j4 =>
           brn (@I.ltb .i64 (I.of .i64 0) (I.ofNat .i64 (@lenL (I .u8) x3.2.1)))
            (brn (@I.nz .i64 (I.ofNat .i64 (@lenL (I .u8) x3.2.1)))
             (j4 ((x3.1.1, (x3.1.2.1, (x3.1.2.2.2.1, ((@I.rem .i64 (@I.quo .i64 x3.1.2.2.1 (I.of .i64 64)) (I.ofNat .i64 (@lenL (I .u8) x3.2.1))), ())))), (x3.2.1, ())))
             (.done (none)))
            (j4 ((x3.1.1, (x3.1.2.1, (x3.1.2.2.2.1, ((I.of .i64 0), ())))), (x3.2.1, ()))))
           (iter (.done (none)) (fun x4 =>
             brn (@I.ltb .i64 x4.1.2.2.2.2.1 x4.1.2.2.2.1)
              (brn (@I.nn .u64 (I.conv (k := .i64) .u64 (@I.rem .i64 x4.1.2.2.2.2.1 (I.of .i64 12))))
               (brn (fitsLen (@lenL (I .u8) (@appL (I .u8) x4.2.1 ((I.conv (k := .i64) .u8 (@I.add .i64 (@I.shr .i64 .u64 x4.1.2.2.1 (I.conv (k := .i64) .u64 (@I.rem .i64 x4.1.2.2.2.2.1 (I.of .i64 12)))) (@I.mul .i64 x4.1.2.2.2.2.1 x4.1.2.2.1))) :: []))))
                (.again ((x4.1.1, (x4.1.2.1, (x4.1.2.2.1, (x4.1.2.2.2.1, ((@I.add .i64 x4.1.2.2.2.2.1 (I.of .i64 1)), ()))))), ((@appL (I .u8) x4.2.1 ((I.conv (k := .i64) .u8 (@I.add .i64 (@I.shr .i64 .u64 x4.1.2.2.1 (I.conv (k := .i64) .u64 (@I.rem .i64 x4.1.2.2.2.2.1 (I.of .i64 12)))) (@I.mul .i64 x4.1.2.2.2.2.1 x4.1.2.2.1))) :: [])), ())))
                (.done (.done (none))))
               (.done (.done (none))))
              (.done (.again ((x4.1.1, ((@I.add .i64 x4.1.2.1 (I.of .i64 1)), ())), (x4.2.1, ())))))
           K ((x3.1.1, (x3.1.2.1, (x3.1.2.2.1, (x3.1.2.2.2.1, ((I.of .i64 0), ()))))), (x3.2.1, ())))) fun j3 =>
        brn (@I.eqb .i64 x2.1.2.2.2.2.1 (I.of .i64 2))
         (j3 ((x2.1.1, (x2.1.2.1, (x2.1.2.2.1, (x2.1.2.2.2.1, ((@I.eqb .i64 x2.1.2.2.2.2.1 (I.of .i64 2)), ()))))), (x2.2.1, ())))
         (brn (@I.eqb .i64 x2.1.2.2.2.2.1 (I.of .i64 3))
          (j3 ((x2.1.1, (x2.1.2.1, (x2.1.2.2.1, (x2.1.2.2.2.1, ((@I.eqb .i64 x2.1.2.2.2.2.1 (I.of .i64 3)), ()))))), (x2.2.1, ())))
          (j3 ((x2.1.1, (x2.1.2.1, (x2.1.2.2.1, (x2.1.2.2.2.1, ((@I.eqb .i64 x2.1.2.2.2.2.1 (I.of .i64 4)), ()))))), (x2.2.1, ())))))) fun j2 =>
     brn (@I.eqb .i64 (@I.rem .i64 y1.1.1 (I.of .i64 8)) (I.of .i64 0))
      (j2 ((x0.1.1, (x0.1.2.1, (y1.1.1, ((@I.add .i64 (I.of .i64 1) (@I.rem .i64 (@I.quo .i64 y1.1.1 (I.of .i64 8)) (I.of .i64 24))), ((@I.rem .i64 y1.1.1 (I.of .i64 8)), ((@I.eqb .i64 (@I.rem .i64 y1.1.1 (I.of .i64 8)) (I.of .i64 0)), ())))))), (x0.2.1, ())))
      (j2 ((x0.1.1, (x0.1.2.1, (y1.1.1, ((@I.add .i64 (I.of .i64 1) (@I.rem .i64 (@I.quo .i64 y1.1.1 (I.of .i64 8)) (I.of .i64 24))), ((@I.rem .i64 y1.1.1 (I.of .i64 8)), ((@I.eqb .i64 (@I.rem .i64 y1.1.1 (I.of .i64 8)) (I.of .i64 1)), ())))))), (x0.2.1, ()))))
     (.done (none)))
    (.done (some ((x0.2.1, ()), ()))))
 K ((a, ((I.of .i64 0), ())), ([], ()))
noncomputable def pontageref1_Min (K : Nat) (x : (⟨[.pl (.sl (.int .i64)), .pl (.sl (.int .i64))], []⟩ : Tm).D) : Option (⟨[.pl (.sl (.int .i64))], []⟩ : Tm).D :=
 let a : List (I .i64) := x.1.1
 let b : List (I .i64) := x.1.2.1
 optF (none) (pontageref1_Cmp K ((a, (b, ())), ())) fun y0 =>
 brn (@I.ltb .i64 (I.of .i64 0) y0.1.1)
  (some ((b, ()), ()))
  (some ((a, ()), ()))
noncomputable def pontageref23_tip (K : Nat) (x : (⟨[.pl (.cons (.int .u64) (.cons (.int .u64) (.cons (.int .u64) (.cons (.arr 4 (.int .u64)) (.cons (.int .u64) (.cons (.arr 4 (.int .u64)) (.cons (.arr 4 (.int .u64)) (.cons (.int .u64) (.cons (.sl (.int .u8)) .nil))))))))), .pl (.arr 4 (.int .u64))], []⟩ : Tm).D) : Option (⟨[.pl (.sl (.int .i64))], []⟩ : Tm).D :=
 let a : (I .u64) × (I .u64) × (I .u64) × ((I .u64) × (I .u64) × (I .u64) × (I .u64) × Unit) × (I .u64) × ((I .u64) × (I .u64) × (I .u64) × (I .u64) × Unit) × ((I .u64) × (I .u64) × (I .u64) × (I .u64) × Unit) × (I .u64) × (List (I .u8)) × Unit := x.1.1
 let b : (I .u64) × (I .u64) × (I .u64) × (I .u64) × Unit := x.1.2.1
 optF (none) (pontageref1_FromUint256 K ((a.2.2.2.2.2.2.1, ()), ())) fun y0 =>
 optF (none) (pontageref1_FromUint256 K ((a.2.2.2.2.2.1, ()), ())) fun y1 =>
 optF (none) (pontageref1_FromUint256 K ((b, ()), ())) fun y2 =>
 optF (none) (pontageref1_Sub K ((y1.1.1, (y2.1.1, ())), ())) fun y3 =>
 optF (none) (pontageref1_Min K ((y0.1.1, (y3.1.1, ())), ())) fun y4 =>
 some ((y4.1.1, ()), ())
noncomputable def pontageref23_GasPrice (K : Nat) (x : (⟨[.pl (.cons (.int .u64) (.cons (.int .u64) (.cons (.int .u64) (.cons (.arr 4 (.int .u64)) (.cons (.int .u64) (.cons (.arr 4 (.int .u64)) (.cons (.arr 4 (.int .u64)) (.cons (.int .u64) (.cons (.sl (.int .u8)) .nil))))))))), .pl (.arr 4 (.int .u64))], []⟩ : Tm).D) : Option (⟨[.pl (.arr 4 (.int .u64)), .pl (.int .i64)], []⟩ : Tm).D :=
 let a : (I .u64) × (I .u64) × (I .u64) × ((I .u64) × (I .u64) × (I .u64) × (I .u64) × Unit) × (I .u64) × ((I .u64) × (I .u64) × (I .u64) × (I .u64) × Unit) × ((I .u64) × (I .u64) × (I .u64) × (I .u64) × Unit) × (I .u64) × (List (I .u8)) × Unit := x.1.1
 let b : (I .u64) × (I .u64) × (I .u64) × (I .u64) × Unit := x.1.2.1
 optF (none) (pontageref1_FromUint256 K ((a.2.2.2.2.2.1, ()), ())) fun y0 =>
 optF (none) (pontageref1_FromUint256 K ((b, ()), ())) fun y1 =>
 optF (none) (pontageref1_Cmp K ((y0.1.1, (y1.1.1, ())), ())) fun y2 =>
 brn (@I.ltb .i64 y2.1.1 (I.of .i64 0))
  (some ((((I.of .u64 0), ((I.of .u64 0), ((I.of .u64 0), ((I.of .u64 0), ())))), ((I.of .i64 12), ())), ()))
  (optF (none) (pontageref1_FromUint256 K ((b, ()), ())) fun y3 =>
  optF (none) (pontageref23_tip K ((a, (b, ())), ())) fun y4 =>
  optF (none) (pontageref1_Add K ((y3.1.1, (y4.1.1, ())), ())) fun y5 =>
  optF (none) (pontageref1_Checked K ((y5.1.1, ()), ())) fun y6 =>
  some ((y6.1.1, (y6.1.2.1, ())), ()))
noncomputable def pontageref23_Covers (K : Nat) (x : (⟨[.pl (.cons (.int .u64) (.cons (.int .u64) (.cons (.int .u64) (.cons (.arr 4 (.int .u64)) (.cons (.int .u64) (.cons (.arr 4 (.int .u64)) (.cons (.arr 4 (.int .u64)) (.cons (.int .u64) (.cons (.sl (.int .u8)) .nil))))))))), .pl (.arr 4 (.int .u64)), .pl (.arr 4 (.int .u64))], []⟩ : Tm).D) : Option (⟨[.pl .bool], []⟩ : Tm).D :=
 let a : (I .u64) × (I .u64) × (I .u64) × ((I .u64) × (I .u64) × (I .u64) × (I .u64) × Unit) × (I .u64) × ((I .u64) × (I .u64) × (I .u64) × (I .u64) × Unit) × ((I .u64) × (I .u64) × (I .u64) × (I .u64) × Unit) × (I .u64) × (List (I .u8)) × Unit := x.1.1
 let b : (I .u64) × (I .u64) × (I .u64) × (I .u64) × Unit := x.1.2.1
 let c : (I .u64) × (I .u64) × (I .u64) × (I .u64) × Unit := x.1.2.2.1
 optF (none) (pontageref1_FromUint64 K ((a.2.2.2.2.1, ()), ())) fun y0 =>
 optF (none) (pontageref1_FromUint256 K ((b, ()), ())) fun y1 =>
 optF (none) (pontageref1_Mul K ((y0.1.1, (y1.1.1, ())), ())) fun y2 =>
 optF (none) (pontageref1_FromUint256 K ((a.2.2.2.1, ()), ())) fun y3 =>
 optF (none) (pontageref1_Add K ((y2.1.1, (y3.1.1, ())), ())) fun y4 =>
 optF (none) (pontageref1_FromUint256 K ((c, ()), ())) fun y5 =>
 optF (none) (pontageref1_Cmp K ((y5.1.1, (y4.1.1, ())), ())) fun y6 =>
 some (((@I.leb .i64 (I.of .i64 0) y6.1.1), ()), ())
end Sym

/- The given functions as plain functions, as the printer told them. -/
namespace Sym
open Go
noncomputable def pontageref3_Valid (K : Nat) (x : (⟨[.pl (.cons .bool (.cons (.arr 4 (.int .u64)) .nil))], []⟩ : Tm).D) : Option (⟨[.pl .bool], []⟩ : Tm).D :=
 let a : (Bool) × ((I .u64) × (I .u64) × (I .u64) × (I .u64) × Unit) × Unit := x.1.1
 brn a.1
  (optF (none) (pontageref1_IsZero K ((a.2.1, ()), ())) fun y0 =>
  some (((bnot y0.1.1), ()), ()))
  (some ((true, ()), ()))
noncomputable def pontageref3_Checked (K : Nat) (x : (⟨[.pl (.cons .bool (.cons (.sl (.int .i64)) .nil))], []⟩ : Tm).D) : Option (⟨[.pl (.cons .bool (.cons (.arr 4 (.int .u64)) .nil)), .pl (.int .i64)], []⟩ : Tm).D :=
 let a : (Bool) × (List (I .i64)) × Unit := x.1.1
 optF (none) (pontageref1_Checked K ((a.2.1, ()), ())) fun y0 =>
 brn (@I.neb .i64 y0.1.2.1 (I.of .i64 0))
  (some (((false, (((I.of .u64 0), ((I.of .u64 0), ((I.of .u64 0), ((I.of .u64 0), ())))), ())), (y0.1.2.1, ())), ()))
  (some (((a.1, (y0.1.1, ())), ((I.of .i64 0), ())), ()))
noncomputable def pontageref3_sign (K : Nat) (x : (⟨[.pl .bool, .pl (.sl (.int .i64))], []⟩ : Tm).D) : Option (⟨[.pl (.cons .bool (.cons (.sl (.int .i64)) .nil))], []⟩ : Tm).D :=
 let a : Bool := x.1.1
 let b : List (I .i64) := x.1.2.1
 brn a
  (some ((((@I.ltb .i64 (I.of .i64 0) (I.ofNat .i64 (@lenL (I .i64) b))), (b, ())), ()), ()))
  (some (((false, (b, ())), ()), ()))
noncomputable def pontageref3_DivFloor (K : Nat) (x : (⟨[.pl (.cons .bool (.cons (.sl (.int .i64)) .nil)), .pl (.sl (.int .i64))], []⟩ : Tm).D) : Option (⟨[.pl (.cons .bool (.cons (.sl (.int .i64)) .nil))], []⟩ : Tm).D :=
 let a : (Bool) × (List (I .i64)) × Unit := x.1.1
 let b : List (I .i64) := x.1.2.1
 optF (none) (pontageref1_Div K ((a.2.1, (b, ())), ())) fun y0 =>
 jn (fun (x1 : (((List (I .i64)) × (Bool × Unit)) × ((Bool × ((List (I .i64)) × Unit)) × ((Bool × ((List (I .i64)) × Unit)) × Unit)))) =>
   brn x1.1.2.1
    (optF (none) (pontageref1_FromUint64 K (((I.of .u64 1), ()), ())) fun y2 =>
    optF (none) (pontageref1_Add K ((x1.1.1, (y2.1.1, ())), ())) fun y3 =>
    optF (none) (pontageref3_sign K ((x1.2.1.1, (y3.1.1, ())), ())) fun y4 =>
    some ((y4.1.1, ()), ()))
    (optF (none) (pontageref3_sign K ((x1.2.1.1, (x1.1.1, ())), ())) fun y2 =>
    some ((y2.1.1, ()), ()))) fun j1 =>
 brn a.1
  (j1 ((y0.1.1, ((@I.ltb .i64 (I.of .i64 0) (I.ofNat .i64 (@lenL (I .i64) y0.1.2.1))), ())), (a, ((false, ([], ())), ()))))
  (j1 ((y0.1.1, (false, ())), (a, ((false, ([], ())), ()))))
noncomputable def pontageref3_FromInt256 (K : Nat) (x : (⟨[.pl (.cons .bool (.cons (.arr 4 (.int .u64)) .nil))], []⟩ : Tm).D) : Option (⟨[.pl (.cons .bool (.cons (.sl (.int .i64)) .nil))], []⟩ : Tm).D :=
 let a : (Bool) × ((I .u64) × (I .u64) × (I .u64) × (I .u64) × Unit) × Unit := x.1.1
 optF (none) (pontageref1_FromUint256 K ((a.2.1, ()), ())) fun y0 =>
 optF (none) (pontageref3_sign K ((a.1, (y0.1.1, ())), ())) fun y1 =>
 some ((y1.1.1, ()), ())
noncomputable def pontageref3_Add (K : Nat) (x : (⟨[.pl (.cons .bool (.cons (.sl (.int .i64)) .nil)), .pl (.cons .bool (.cons (.sl (.int .i64)) .nil))], []⟩ : Tm).D) : Option (⟨[.pl (.cons .bool (.cons (.sl (.int .i64)) .nil))], []⟩ : Tm).D :=
 let a : (Bool) × (List (I .i64)) × Unit := x.1.1
 let b : (Bool) × (List (I .i64)) × Unit := x.1.2.1
 brn (Ty.eqb .bool a.1 b.1)
  (optF (none) (pontageref1_Add K ((a.2.1, (b.2.1, ())), ())) fun y0 =>
  optF (none) (pontageref3_sign K ((a.1, (y0.1.1, ())), ())) fun y1 =>
  some ((y1.1.1, ()), ()))
  (optF (none) (pontageref1_Cmp K ((a.2.1, (b.2.1, ())), ())) fun y0 =>
  brn (@I.leb .i64 (I.of .i64 0) y0.1.1)
   (optF (none) (pontageref1_Sub K ((a.2.1, (b.2.1, ())), ())) fun y1 =>
   optF (none) (pontageref3_sign K ((a.1, (y1.1.1, ())), ())) fun y2 =>
   some ((y2.1.1, ()), ()))
   (optF (none) (pontageref1_Sub K ((b.2.1, (a.2.1, ())), ())) fun y1 =>
   optF (none) (pontageref3_sign K ((b.1, (y1.1.1, ())), ())) fun y2 =>
   some ((y2.1.1, ()), ())))
noncomputable def pontageref3_AddClamped (K : Nat) (x : (⟨[.pl (.arr 4 (.int .u64)), .pl (.cons .bool (.cons (.arr 4 (.int .u64)) .nil))], []⟩ : Tm).D) : Option (⟨[.pl (.arr 4 (.int .u64)), .pl (.int .i64)], []⟩ : Tm).D :=
 let a : (I .u64) × (I .u64) × (I .u64) × (I .u64) × Unit := x.1.1
 let b : (Bool) × ((I .u64) × (I .u64) × (I .u64) × (I .u64) × Unit) × Unit := x.1.2.1
 optF (none) (pontageref3_Valid K ((b, ()), ())) fun y0 =>
 brn (bnot y0.1.1)
  (some ((((I.of .u64 0), ((I.of .u64 0), ((I.of .u64 0), ((I.of .u64 0), ())))), ((I.of .i64 2), ())), ()))
  (optF (none) (pontageref1_FromUint256 K ((a, ()), ())) fun y1 =>
  optF (none) (pontageref3_sign K ((false, (y1.1.1, ())), ())) fun y2 =>
  optF (none) (pontageref3_FromInt256 K ((b, ()), ())) fun y3 =>
  optF (none) (pontageref3_Add K ((y2.1.1, (y3.1.1, ())), ())) fun y4 =>
  brn y4.1.1.1
   (some ((((I.of .u64 0), ((I.of .u64 0), ((I.of .u64 0), ((I.of .u64 0), ())))), ((I.of .i64 0), ())), ()))
   (optF (none) (pontageref1_Checked K ((y4.1.1.2.1, ()), ())) fun y5 =>
   some ((y5.1.1, (y5.1.2.1, ())), ())))
noncomputable def pontageref3_Diff (K : Nat) (x : (⟨[.pl (.arr 4 (.int .u64)), .pl (.arr 4 (.int .u64))], []⟩ : Tm).D) : Option (⟨[.pl (.cons .bool (.cons (.arr 4 (.int .u64)) .nil))], []⟩ : Tm).D :=
 let a : (I .u64) × (I .u64) × (I .u64) × (I .u64) × Unit := x.1.1
 let b : (I .u64) × (I .u64) × (I .u64) × (I .u64) × Unit := x.1.2.1
 optF (none) (pontageref1_FromUint256 K ((a, ()), ())) fun y0 =>
 optF (none) (pontageref3_sign K ((false, (y0.1.1, ())), ())) fun y1 =>
 optF (none) (pontageref1_FromUint256 K ((b, ()), ())) fun y2 =>
 optF (none) (pontageref3_sign K ((true, (y2.1.1, ())), ())) fun y3 =>
 optF (none) (pontageref3_Add K ((y1.1.1, (y3.1.1, ())), ())) fun y4 =>
 optF (none) (pontageref3_Checked K ((y4.1.1, ()), ())) fun y5 =>
 some ((y5.1.1, ()), ())
noncomputable def pontageref3_Negate (K : Nat) (x : (⟨[.pl (.cons .bool (.cons (.sl (.int .i64)) .nil))], []⟩ : Tm).D) : Option (⟨[.pl (.cons .bool (.cons (.sl (.int .i64)) .nil))], []⟩ : Tm).D :=
 let a : (Bool) × (List (I .i64)) × Unit := x.1.1
 optF (none) (pontageref3_sign K (((bnot a.1), (a.2.1, ())), ())) fun y0 =>
 some ((y0.1.1, ()), ())
noncomputable def pontageref3_Mul (K : Nat) (x : (⟨[.pl (.cons .bool (.cons (.sl (.int .i64)) .nil)), .pl (.cons .bool (.cons (.sl (.int .i64)) .nil))], []⟩ : Tm).D) : Option (⟨[.pl (.cons .bool (.cons (.sl (.int .i64)) .nil))], []⟩ : Tm).D :=
 let a : (Bool) × (List (I .i64)) × Unit := x.1.1
 let b : (Bool) × (List (I .i64)) × Unit := x.1.2.1
 optF (none) (pontageref1_Mul K ((a.2.1, (b.2.1, ())), ())) fun y0 =>
 optF (none) (pontageref3_sign K (((bnot (Ty.eqb .bool a.1 b.1)), (y0.1.1, ())), ())) fun y1 =>
 some ((y1.1.1, ()), ())
end Sym

/- The given functions as plain functions, as the printer told them. -/
namespace Sym
open Go
noncomputable def pontageref12_in (K : Nat) (x : (⟨[.pl (.int .u64), .pl (.int .u64), .pl (.int .u64)], []⟩ : Tm).D) : Option (⟨[.pl .bool], []⟩ : Tm).D :=
 let a : I .u64 := x.1.1
 let b : I .u64 := x.1.2.1
 let c : I .u64 := x.1.2.2.1
 brn (@I.leb .u64 b a)
  (some (((@I.leb .u64 a c), ()), ()))
  (some ((false, ()), ()))
noncomputable def pontageref1_Uint64 (K : Nat) (x : (⟨[.pl (.arr 4 (.int .u64))], []⟩ : Tm).D) : Option (⟨[.pl (.int .u64), .pl .bool], []⟩ : Tm).D :=
 let a : (I .u64) × (I .u64) × (I .u64) × (I .u64) × Unit := x.1.1
 brn (@I.neb .u64 a.2.1 (I.of .u64 0))
  (some (((I.of .u64 0), (false, ())), ()))
  (brn (@I.neb .u64 a.2.2.1 (I.of .u64 0))
   (some (((I.of .u64 0), (false, ())), ()))
   (brn (@I.neb .u64 a.2.2.2.1 (I.of .u64 0))
    (some (((I.of .u64 0), (false, ())), ()))
    (some ((a.1, (true, ())), ()))))
noncomputable def pontageref12_atLeast (K : Nat) (x : (⟨[.pl (.arr 4 (.int .u64)), .pl (.int .u64)], []⟩ : Tm).D) : Option (⟨[.pl .bool], []⟩ : Tm).D :=
 let a : (I .u64) × (I .u64) × (I .u64) × (I .u64) × Unit := x.1.1
 let b : I .u64 := x.1.2.1
 optF (none) (pontageref1_Uint64 K ((a, ()), ())) fun y0 =>
 brn y0.1.2.1
  (some (((@I.leb .u64 b y0.1.1), ()), ()))
  (some ((false, ()), ()))
noncomputable def pontageref12_FirstInvalid (K : Nat) (x : (⟨[.pl (.cons (.int .u64) (.cons (.int .u64) (.cons (.int .u64) (.cons (.arr 4 (.int .u64)) (.cons (.int .u64) (.cons (.arr 4 (.int .u64)) (.cons (.int .u64) (.cons (.arr 4 (.int .u64)) (.cons (.int .u64) (.cons (.int .u64) (.cons (.int .u64) (.cons (.int .u64) .nil))))))))))))], []⟩ : Tm).D) : Option (⟨[.pl (.int .i64)], []⟩ : Tm).D :=
 let a : (I .u64) × (I .u64) × (I .u64) × ((I .u64) × (I .u64) × (I .u64) × (I .u64) × Unit) × (I .u64) × ((I .u64) × (I .u64) × (I .u64) × (I .u64) × Unit) × (I .u64) × ((I .u64) × (I .u64) × (I .u64) × (I .u64) × Unit) × (I .u64) × (I .u64) × (I .u64) × (I .u64) × Unit := x.1.1
 optF (none) (pontageref12_in K ((a.1, ((I.of .u64 1), ((I.of .u64 1099511627776), ()))), ())) fun y0 =>
  optF (none) (pontageref12_in K ((a.2.1, ((I.of .u64 0), ((I.of .u64 1048576), ()))), ())) fun y1 =>
  optF (none) (pontageref12_in K ((a.2.2.1, ((I.of .u64 1), ((I.of .u64 1048576), ()))), ())) fun y2 =>
  optF (none) (pontageref12_atLeast K ((a.2.2.2.1, ((I.of .u64 1), ())), ())) fun y3 =>
  optF (none) (pontageref12_in K ((a.2.2.2.2.1, ((I.of .u64 1), ((I.of .u64 1099511627776), ()))), ())) fun y4 =>
  optF (none) (pontageref12_atLeast K ((a.2.2.2.2.2.1, ((I.of .u64 0), ())), ())) fun y5 =>
  optF (none) (pontageref12_in K ((a.2.2.2.2.2.2.1, ((I.of .u64 0), ((I.of .u64 10000), ()))), ())) fun y6 =>
  optF (none) (pontageref12_atLeast K ((a.2.2.2.2.2.2.2.1, ((I.of .u64 0), ())), ())) fun y7 =>
  optF (none) (pontageref12_in K ((a.2.2.2.2.2.2.2.2.1, ((I.of .u64 1), ((I.of .u64 1099511627776), ()))), ())) fun y8 =>
  optF (none) (pontageref12_in K ((a.2.2.2.2.2.2.2.2.2.1, ((I.of .u64 1), ((I.of .u64 1048576), ()))), ())) fun y9 =>
  optF (none) (pontageref12_in K ((a.2.2.2.2.2.2.2.2.2.2.1, ((I.of .u64 0), ((I.of .u64 1048576), ()))), ())) fun y10 =>
  optF (none) (pontageref12_in K ((a.2.2.2.2.2.2.2.2.2.2.2.1, (a.2.2.2.2.2.2.2.2.2.2.1, ((I.of .u64 16777216), ()))), ())) fun y11 =>
  brn (bnot y0.1.1)
   (some (((I.of .i64 1), ()), ()))
   (brn (bnot y1.1.1)
   (some (((I.of .i64 2), ()), ()))
   (brn (bnot y2.1.1)
   (some (((I.of .i64 3), ()), ()))
   (brn (bnot y3.1.1)
   (some (((I.of .i64 4), ()), ()))
   (brn (bnot y4.1.1)
   (some (((I.of .i64 5), ()), ()))
   (brn (bnot y5.1.1)
   (some (((I.of .i64 6), ()), ()))
   (brn (bnot y6.1.1)
   (some (((I.of .i64 7), ()), ()))
   (brn (bnot y7.1.1)
   (some (((I.of .i64 8), ()), ()))
   (brn (bnot y8.1.1)
   (some (((I.of .i64 9), ()), ()))
   (brn (bnot y9.1.1)
   (some (((I.of .i64 10), ()), ()))
   (brn (bnot y10.1.1)
   (some (((I.of .i64 11), ()), ()))
   (brn (bnot y11.1.1)
   (some (((I.of .i64 12), ()), ()))
   (some (((I.of .i64 0), ()), ())))))))))))))
noncomputable def pontageref12_Valid (K : Nat) (x : (⟨[.pl (.cons (.int .u64) (.cons (.int .u64) (.cons (.int .u64) (.cons (.arr 4 (.int .u64)) (.cons (.int .u64) (.cons (.arr 4 (.int .u64)) (.cons (.int .u64) (.cons (.arr 4 (.int .u64)) (.cons (.int .u64) (.cons (.int .u64) (.cons (.int .u64) (.cons (.int .u64) .nil))))))))))))], []⟩ : Tm).D) : Option (⟨[.pl .bool], []⟩ : Tm).D :=
 let a : (I .u64) × (I .u64) × (I .u64) × ((I .u64) × (I .u64) × (I .u64) × (I .u64) × Unit) × (I .u64) × ((I .u64) × (I .u64) × (I .u64) × (I .u64) × Unit) × (I .u64) × ((I .u64) × (I .u64) × (I .u64) × (I .u64) × Unit) × (I .u64) × (I .u64) × (I .u64) × (I .u64) × Unit := x.1.1
 optF (none) (pontageref12_FirstInvalid K ((a, ()), ())) fun y0 =>
 some (((@I.eqb .i64 y0.1.1 (I.of .i64 0)), ()), ())
noncomputable def pontageref19_Delta (K : Nat) (x : (⟨[.pl (.cons .bool (.cons (.arr 4 (.int .u64)) .nil)), .pl (.cons .bool (.cons (.arr 4 (.int .u64)) .nil)), .pl (.int .u64), .pl (.cons (.int .u64) (.cons (.int .u64) (.cons (.int .u64) (.cons (.arr 4 (.int .u64)) (.cons (.int .u64) (.cons (.arr 4 (.int .u64)) (.cons (.int .u64) (.cons (.arr 4 (.int .u64)) (.cons (.int .u64) (.cons (.int .u64) (.cons (.int .u64) (.cons (.int .u64) .nil))))))))))))], []⟩ : Tm).D) : Option (⟨[.pl (.cons .bool (.cons (.arr 4 (.int .u64)) .nil)), .pl (.int .i64)], []⟩ : Tm).D :=
 let a : (Bool) × ((I .u64) × (I .u64) × (I .u64) × (I .u64) × Unit) × Unit := x.1.1
 let b : (Bool) × ((I .u64) × (I .u64) × (I .u64) × (I .u64) × Unit) × Unit := x.1.2.1
 let c : I .u64 := x.1.2.2.1
 let d : (I .u64) × (I .u64) × (I .u64) × ((I .u64) × (I .u64) × (I .u64) × (I .u64) × Unit) × (I .u64) × ((I .u64) × (I .u64) × (I .u64) × (I .u64) × Unit) × (I .u64) × ((I .u64) × (I .u64) × (I .u64) × (I .u64) × Unit) × (I .u64) × (I .u64) × (I .u64) × (I .u64) × Unit := x.1.2.2.2.1
 optF (none) (pontageref12_Valid K ((d, ()), ())) fun y0 =>
 brn (bnot y0.1.1)
  (some (((false, (((I.of .u64 0), ((I.of .u64 0), ((I.of .u64 0), ((I.of .u64 0), ())))), ())), ((I.of .i64 15), ())), ()))
  (jn (fun (x1 : (((I .u64) × Unit) × ((Bool × (((I .u64) × ((I .u64) × ((I .u64) × ((I .u64) × Unit)))) × Unit)) × ((Bool × (((I .u64) × ((I .u64) × ((I .u64) × ((I .u64) × Unit)))) × Unit)) × (((I .u64) × ((I .u64) × ((I .u64) × (((I .u64) × ((I .u64) × ((I .u64) × ((I .u64) × Unit)))) × ((I .u64) × (((I .u64) × ((I .u64) × ((I .u64) × ((I .u64) × Unit)))) × ((I .u64) × (((I .u64) × ((I .u64) × ((I .u64) × ((I .u64) × Unit)))) × ((I .u64) × ((I .u64) × ((I .u64) × ((I .u64) × Unit)))))))))))) × ((Bool × (((I .u64) × ((I .u64) × ((I .u64) × ((I .u64) × Unit)))) × Unit)) × Unit)))))) =>
    optF (none) (pontageref3_FromInt256 K ((x1.2.1, ()), ())) fun y2 =>
    optF (none) (pontageref3_Negate K ((y2.1.1, ()), ())) fun y3 =>
    optF (none) (pontageref1_FromUint64 K ((x1.2.2.2.1.2.2.2.2.2.2.2.2.1, ()), ())) fun y4 =>
    optF (none) (pontageref3_DivFloor K ((y3.1.1, (y4.1.1, ())), ())) fun y5 =>
    optF (none) (pontageref3_FromInt256 K ((x1.2.1, ()), ())) fun y6 =>
    optF (none) (pontageref3_FromInt256 K ((x1.2.2.1, ()), ())) fun y7 =>
    optF (none) (pontageref3_Negate K ((y7.1.1, ()), ())) fun y8 =>
    optF (none) (pontageref3_Add K ((y6.1.1, (y8.1.1, ())), ())) fun y9 =>
    optF (none) (pontageref1_FromUint64 K ((x1.1.1, ()), ())) fun y10 =>
    optF (none) (pontageref3_DivFloor K ((y9.1.1, (y10.1.1, ())), ())) fun y11 =>
    optF (none) (pontageref3_Negate K ((y11.1.1, ()), ())) fun y12 =>
    optF (none) (pontageref3_Add K ((y5.1.1, (y12.1.1, ())), ())) fun y13 =>
    optF (none) (pontageref1_FromUint64 K ((x1.1.1, ()), ())) fun y14 =>
    optF (none) (pontageref3_Mul K ((y13.1.1, ((false, (y14.1.1, ())), ())), ())) fun y15 =>
    jn (fun (x16 : (((I .u64) × Unit) × (((I .u64) × ((I .u64) × ((I .u64) × (((I .u64) × ((I .u64) × ((I .u64) × ((I .u64) × Unit)))) × ((I .u64) × (((I .u64) × ((I .u64) × ((I .u64) × ((I .u64) × Unit)))) × ((I .u64) × (((I .u64) × ((I .u64) × ((I .u64) × ((I .u64) × Unit)))) × ((I .u64) × ((I .u64) × ((I .u64) × ((I .u64) × Unit)))))))))))) × ((Bool × (((I .u64) × ((I .u64) × ((I .u64) × ((I .u64) × Unit)))) × Unit)) × ((Bool × ((List (I .i64)) × Unit)) × Unit))))) =>
      optF (none) (pontageref1_FromUint64 K ((x16.2.1.2.2.2.2.2.2.2.2.1, ()), ())) fun y17 =>
      optF (none) (pontageref1_FromUint64 K ((x16.2.1.2.2.2.2.2.2.2.2.2.1, ()), ())) fun y18 =>
      optF (none) (pontageref1_Div K ((y17.1.1, (y18.1.1, ())), ())) fun y19 =>
      optF (none) (pontageref1_FromUint64 K ((x16.1.1, ()), ())) fun y20 =>
      optF (none) (pontageref1_Add K ((y19.1.1, (y20.1.1, ())), ())) fun y21 =>
      optF (none) (pontageref3_DivFloor K ((x16.2.2.2.1, (y21.1.1, ())), ())) fun y22 =>
      optF (none) (pontageref3_Checked K ((y22.1.1, ()), ())) fun y23 =>
      some ((y23.1.1, (y23.1.2.1, ())), ())) fun j16 =>
    optF (none) (pontageref1_Fits K ((y9.1.1.2.1, ()), ())) fun y17 =>
    brn (bnot y17.1.1)
     (some (((false, (((I.of .u64 0), ((I.of .u64 0), ((I.of .u64 0), ((I.of .u64 0), ())))), ())), ((I.of .i64 4), ())), ()))
     (optF (none) (pontageref1_Fits K ((y13.1.1.2.1, ()), ())) fun y18 =>
     brn (bnot y18.1.1)
      (some (((false, (((I.of .u64 0), ((I.of .u64 0), ((I.of .u64 0), ((I.of .u64 0), ())))), ())), ((I.of .i64 4), ())), ()))
      (optF (none) (pontageref1_Fits K ((y15.1.1.2.1, ()), ())) fun y19 =>
      brn (bnot y19.1.1)
       (some (((false, (((I.of .u64 0), ((I.of .u64 0), ((I.of .u64 0), ((I.of .u64 0), ())))), ())), ((I.of .i64 4), ())), ()))
       (j16 ((x1.1.1, ()), (x1.2.2.2.1, (x1.2.2.2.2.1, (y15.1.1, ())))))))) fun j1 =>
  optF (none) (pontageref3_Valid K ((a, ()), ())) fun y2 =>
  brn (bnot y2.1.1)
   (some (((false, (((I.of .u64 0), ((I.of .u64 0), ((I.of .u64 0), ((I.of .u64 0), ())))), ())), ((I.of .i64 2), ())), ()))
   (optF (none) (pontageref3_Valid K ((b, ()), ())) fun y3 =>
   brn (bnot y3.1.1)
    (some (((false, (((I.of .u64 0), ((I.of .u64 0), ((I.of .u64 0), ((I.of .u64 0), ())))), ())), ((I.of .i64 2), ())), ()))
    (brn (@I.eqb .u64 c (I.of .u64 0))
     (some (((false, (((I.of .u64 0), ((I.of .u64 0), ((I.of .u64 0), ((I.of .u64 0), ())))), ())), ((I.of .i64 2), ())), ()))
     (j1 ((c, ()), (a, (b, (d, ((false, (((I.of .u64 0), ((I.of .u64 0), ((I.of .u64 0), ((I.of .u64 0), ())))), ())), ())))))))))
noncomputable def pontageref19_Next (K : Nat) (x : (⟨[.pl (.arr 4 (.int .u64)), .pl (.cons .bool (.cons (.arr 4 (.int .u64)) .nil)), .pl (.cons .bool (.cons (.arr 4 (.int .u64)) .nil)), .pl (.int .u64), .pl (.cons (.int .u64) (.cons (.int .u64) (.cons (.int .u64) (.cons (.arr 4 (.int .u64)) (.cons (.int .u64) (.cons (.arr 4 (.int .u64)) (.cons (.int .u64) (.cons (.arr 4 (.int .u64)) (.cons (.int .u64) (.cons (.int .u64) (.cons (.int .u64) (.cons (.int .u64) .nil))))))))))))], []⟩ : Tm).D) : Option (⟨[.pl (.arr 4 (.int .u64)), .pl (.int .i64)], []⟩ : Tm).D :=
 let a : (I .u64) × (I .u64) × (I .u64) × (I .u64) × Unit := x.1.1
 let b : (Bool) × ((I .u64) × (I .u64) × (I .u64) × (I .u64) × Unit) × Unit := x.1.2.1
 let c : (Bool) × ((I .u64) × (I .u64) × (I .u64) × (I .u64) × Unit) × Unit := x.1.2.2.1
 let d : I .u64 := x.1.2.2.2.1
 let e : (I .u64) × (I .u64) × (I .u64) × ((I .u64) × (I .u64) × (I .u64) × (I .u64) × Unit) × (I .u64) × ((I .u64) × (I .u64) × (I .u64) × (I .u64) × Unit) × (I .u64) × ((I .u64) × (I .u64) × (I .u64) × (I .u64) × Unit) × (I .u64) × (I .u64) × (I .u64) × (I .u64) × Unit := x.1.2.2.2.2.1
 optF (none) (pontageref12_Valid K ((e, ()), ())) fun y0 =>
 brn (bnot y0.1.1)
  (some ((((I.of .u64 0), ((I.of .u64 0), ((I.of .u64 0), ((I.of .u64 0), ())))), ((I.of .i64 15), ())), ()))
  (jn (fun (x1 : (((I .u64) × Unit) × (((I .u64) × ((I .u64) × ((I .u64) × ((I .u64) × Unit)))) × ((Bool × (((I .u64) × ((I .u64) × ((I .u64) × ((I .u64) × Unit)))) × Unit)) × ((Bool × (((I .u64) × ((I .u64) × ((I .u64) × ((I .u64) × Unit)))) × Unit)) × (((I .u64) × ((I .u64) × ((I .u64) × (((I .u64) × ((I .u64) × ((I .u64) × ((I .u64) × Unit)))) × ((I .u64) × (((I .u64) × ((I .u64) × ((I .u64) × ((I .u64) × Unit)))) × ((I .u64) × (((I .u64) × ((I .u64) × ((I .u64) × ((I .u64) × Unit)))) × ((I .u64) × ((I .u64) × ((I .u64) × ((I .u64) × Unit)))))))))))) × (((I .u64) × ((I .u64) × ((I .u64) × ((I .u64) × Unit)))) × Unit))))))) =>
    brn (@I.eqb .u64 x1.1.1 (I.of .u64 0))
     (some ((x1.2.1, ((I.of .i64 0), ())), ()))
     (optF (none) (pontageref19_Delta K ((x1.2.2.1, (x1.2.2.2.1, (x1.1.1, (x1.2.2.2.2.1, ())))), ())) fun y2 =>
     brn (@I.neb .i64 y2.1.2.1 (I.of .i64 0))
      (some ((((I.of .u64 0), ((I.of .u64 0), ((I.of .u64 0), ((I.of .u64 0), ())))), (y2.1.2.1, ())), ()))
      (optF (none) (pontageref3_AddClamped K ((x1.2.1, (y2.1.1, ())), ())) fun y3 =>
      some ((y3.1.1, (y3.1.2.1, ())), ())))) fun j1 =>
  optF (none) (pontageref3_Valid K ((b, ()), ())) fun y2 =>
  brn (bnot y2.1.1)
   (some ((((I.of .u64 0), ((I.of .u64 0), ((I.of .u64 0), ((I.of .u64 0), ())))), ((I.of .i64 2), ())), ()))
   (optF (none) (pontageref3_Valid K ((c, ()), ())) fun y3 =>
   brn (bnot y3.1.1)
    (some ((((I.of .u64 0), ((I.of .u64 0), ((I.of .u64 0), ((I.of .u64 0), ())))), ((I.of .i64 2), ())), ()))
    (j1 ((d, ()), (a, (b, (c, (e, (((I.of .u64 0), ((I.of .u64 0), ((I.of .u64 0), ((I.of .u64 0), ())))), ())))))))))
end Sym

/- The given functions as plain functions, as the printer told them. -/
namespace Sym
open Go
noncomputable def pontageref9_matchLength (K : Nat) (x : (⟨[.pl (.sl (.int .u8)), .pl (.int .i64), .pl (.int .i64)], []⟩ : Tm).D) : Option (⟨[.pl (.int .i64)], []⟩ : Tm).D :=
 let a : List (I .u8) := x.1.1
 let b : I .i64 := x.1.2.1
 let c : I .i64 := x.1.2.2.1
 iter (none) (fun x0 =>
   brn (@I.ltb .i64 x0.1.2.2.2.1 (I.of .i64 131))
    (brn (@I.ltb .i64 (@I.add .i64 x0.1.2.1 x0.1.2.2.2.1) (I.ofNat .i64 (@lenL (I .u8) x0.1.1)))
     (brn (@inB .i64 (@I.add .i64 x0.1.2.1 x0.1.2.2.2.1) (@lenL (I .u8) x0.1.1))
      (brn (@inB .i64 (@I.sub .i64 (@I.add .i64 x0.1.2.1 x0.1.2.2.2.1) x0.1.2.2.1) (@lenL (I .u8) x0.1.1))
       (brn (@I.eqb .u8 (@rdL (I .u8) (I.of .u8 0) x0.1.1 (@I.nat .i64 (@I.add .i64 x0.1.2.1 x0.1.2.2.2.1))) (@rdL (I .u8) (I.of .u8 0) x0.1.1 (@I.nat .i64 (@I.sub .i64 (@I.add .i64 x0.1.2.1 x0.1.2.2.2.1) x0.1.2.2.1))))
        (.again ((x0.1.1, (x0.1.2.1, (x0.1.2.2.1, ((@I.add .i64 x0.1.2.2.2.1 (I.of .i64 1)), ())))), ()))
        (.done (some ((x0.1.2.2.2.1, ()), ()))))
       (.done (none)))
      (.done (none)))
     (.done (some ((x0.1.2.2.2.1, ()), ()))))
    (.done (some ((x0.1.2.2.2.1, ()), ()))))
 K ((a, (b, (c, ((I.of .i64 0), ())))), ())
noncomputable def pontageref9_best (K : Nat) (x : (⟨[.pl (.sl (.int .u8)), .pl (.int .i64)], []⟩ : Tm).D) : Option (⟨[.pl (.int .i64), .pl (.int .i64)], []⟩ : Tm).D :=
 let a : List (I .u8) := x.1.1
 let b : I .i64 := x.1.2.1
 iter (none) (fun x0 =>
   jn (fun (x1 : (((List (I .u8)) × ((I .i64) × ((I .i64) × ((I .i64) × ((I .i64) × ((I .i64) × ((I .i64) × (Bool × Unit)))))))) × Unit)) =>
     optF (.done (none)) (pontageref9_matchLength K ((x1.1.1, (x1.1.2.1, (x1.1.2.2.2.2.1, ()))), ())) fun y2 =>
     brn (@I.ltb .i64 x1.1.2.2.1 y2.1.1)
      (.again ((x1.1.1, (x1.1.2.1, (y2.1.1, (x1.1.2.2.2.2.1, ((@I.add .i64 x1.1.2.2.2.2.1 (I.of .i64 1)), ()))))), ()))
      (.again ((x1.1.1, (x1.1.2.1, (x1.1.2.2.1, (x1.1.2.2.2.1, ((@I.add .i64 x1.1.2.2.2.2.1 (I.of .i64 1)), ()))))), ()))) fun j1 =>
   brn (@I.leb .i64 x0.1.2.2.2.2.1 (I.of .i64 1024))
    (brn (@I.leb .i64 x0.1.2.2.2.2.1 x0.1.2.1)
     (j1 ((x0.1.1, (x0.1.2.1, (x0.1.2.2.1, (x0.1.2.2.2.1, (x0.1.2.2.2.2.1, (x0.1.2.2.2.2.1, (x0.1.2.1, ((@I.leb .i64 x0.1.2.2.2.2.1 x0.1.2.1), ())))))))), ()))
     (.done (some ((x0.1.2.2.1, (x0.1.2.2.2.1, ())), ()))))
    (.done (some ((x0.1.2.2.1, (x0.1.2.2.2.1, ())), ()))))
 K ((a, (b, ((I.of .i64 0), ((I.of .i64 0), ((I.of .i64 1), ()))))), ())
noncomputable def pontageref9_Compress (K : Nat) (x : (⟨[.pl (.sl (.int .u8))], []⟩ : Tm).D) : Option (⟨[.pl (.sl (.int .u8))], []⟩ : Tm).D :=
 let a : List (I .u8) := x.1.1
 iter (none) (fun x0 =>
   brn (@I.ltb .i64 x0.1.2.2.1 (I.ofNat .i64 (@lenL (I .u8) x0.1.1)))
    (optF (.done (none)) (pontageref9_best K ((x0.1.1, (x0.1.2.2.1, ())), ())) fun y1 =>
    brn (@I.ltb .i64 y1.1.1 (I.of .i64 4))
     (.again ((x0.1.1, (x0.1.2.1, ((@I.add .i64 x0.1.2.2.1 (I.of .i64 1)), ()))), (x0.2.1, ())))
     (brn (@inB' .i64 x0.1.2.1 (@I.nat .i64 x0.1.2.2.1))
      (brn (@inB' .i64 x0.1.2.2.1 (@lenL (I .u8) x0.1.1))
       (iter (.done (none)) (fun x2 =>
         brn (@I.ltb .i64 (I.of .i64 0) (I.ofNat .i64 (@lenL (I .u8) x2.1.1)))
          (brn (@I.ltb .i64 (I.of .i64 127) (I.ofNat .i64 (@lenL (I .u8) x2.1.1)))
           (brn (fitsLen (@lenL (I .u8) (@appL (I .u8) x2.2.1 ((I.of .u8 127) :: []))))
            (brn (@inB' .i64 (I.of .i64 127) (@lenL (I .u8) x2.1.1))
             (brn (fitsLen (@lenL (I .u8) (@appL (I .u8) (@appL (I .u8) x2.2.1 ((I.of .u8 127) :: [])) (@subL (I .u8) x2.1.1 0 127))))
              (brn (@inB' .i64 (I.of .i64 127) (@lenL (I .u8) x2.1.1))
               (.again (((@subL (I .u8) x2.1.1 127 ((@lenL (I .u8) x2.1.1) - 127)), (x2.1.2.1, (x2.1.2.2.1, (x2.1.2.2.2.1, (x2.1.2.2.2.2.1, ()))))), ((@appL (I .u8) (@appL (I .u8) x2.2.1 ((I.of .u8 127) :: [])) (@subL (I .u8) x2.1.1 0 127)), ())))
               (.done (.done (none))))
              (.done (.done (none))))
             (.done (.done (none))))
            (.done (.done (none))))
           (brn (fitsLen (@lenL (I .u8) (@appL (I .u8) x2.2.1 ((I.conv (k := .i64) .u8 (I.ofNat .i64 (@lenL (I .u8) x2.1.1))) :: []))))
            (brn (@inB' .i64 (I.ofNat .i64 (@lenL (I .u8) x2.1.1)) (@lenL (I .u8) x2.1.1))
             (brn (fitsLen (@lenL (I .u8) (@appL (I .u8) (@appL (I .u8) x2.2.1 ((I.conv (k := .i64) .u8 (I.ofNat .i64 (@lenL (I .u8) x2.1.1))) :: [])) (@subL (I .u8) x2.1.1 0 (@I.nat .i64 (I.ofNat .i64 (@lenL (I .u8) x2.1.1)))))))
              (brn (@inB' .i64 (I.ofNat .i64 (@lenL (I .u8) x2.1.1)) (@lenL (I .u8) x2.1.1))
               (.again (((@subL (I .u8) x2.1.1 (@I.nat .i64 (I.ofNat .i64 (@lenL (I .u8) x2.1.1))) ((@lenL (I .u8) x2.1.1) - (@I.nat .i64 (I.ofNat .i64 (@lenL (I .u8) x2.1.1))))), (x2.1.2.1, (x2.1.2.2.1, (x2.1.2.2.2.1, (x2.1.2.2.2.2.1, ()))))), ((@appL (I .u8) (@appL (I .u8) x2.2.1 ((I.conv (k := .i64) .u8 (I.ofNat .i64 (@lenL (I .u8) x2.1.1))) :: [])) (@subL (I .u8) x2.1.1 0 (@I.nat .i64 (I.ofNat .i64 (@lenL (I .u8) x2.1.1))))), ())))
               (.done (.done (none))))
              (.done (.done (none))))
             (.done (.done (none))))
            (.done (.done (none)))))
          (.done (brn (fitsLen (@lenL (I .u8) (@appL (I .u8) x2.2.1 ((I.conv (k := .i64) .u8 (@I.add .i64 x2.1.2.2.2.1 (I.of .i64 124))) :: ((I.conv (k := .i64) .u8 (@I.quo .i64 (@I.sub .i64 x2.1.2.2.2.2.1 (I.of .i64 1)) (I.of .i64 256))) :: ((I.conv (k := .i64) .u8 (@I.rem .i64 (@I.sub .i64 x2.1.2.2.2.2.1 (I.of .i64 1)) (I.of .i64 256))) :: []))))))
           (.again ((x2.1.2.1, ((@I.add .i64 x2.1.2.2.1 x2.1.2.2.2.1), ((@I.add .i64 x2.1.2.2.1 x2.1.2.2.2.1), ()))), ((@appL (I .u8) x2.2.1 ((I.conv (k := .i64) .u8 (@I.add .i64 x2.1.2.2.2.1 (I.of .i64 124))) :: ((I.conv (k := .i64) .u8 (@I.quo .i64 (@I.sub .i64 x2.1.2.2.2.2.1 (I.of .i64 1)) (I.of .i64 256))) :: ((I.conv (k := .i64) .u8 (@I.rem .i64 (@I.sub .i64 x2.1.2.2.2.2.1 (I.of .i64 1)) (I.of .i64 256))) :: [])))), ())))
           (.done (none)))))
       K (((@subL (I .u8) x0.1.1 (@I.nat .i64 x0.1.2.1) ((@I.nat .i64 x0.1.2.2.1) - (@I.nat .i64 x0.1.2.1))), (x0.1.1, (x0.1.2.2.1, (y1.1.1, (y1.1.2.1, ()))))), (x0.2.1, ())))
       (.done (none)))
      (.done (none))))
    (.done (brn (@inB' .i64 x0.1.2.1 (@lenL (I .u8) x0.1.1))
     (iter (none) (fun x1 =>
       brn (@I.ltb .i64 (I.of .i64 0) (I.ofNat .i64 (@lenL (I .u8) x1.1.1)))
        (brn (@I.ltb .i64 (I.of .i64 127) (I.ofNat .i64 (@lenL (I .u8) x1.1.1)))
         (brn (fitsLen (@lenL (I .u8) (@appL (I .u8) x1.2.1 ((I.of .u8 127) :: []))))
          (brn (@inB' .i64 (I.of .i64 127) (@lenL (I .u8) x1.1.1))
           (brn (fitsLen (@lenL (I .u8) (@appL (I .u8) (@appL (I .u8) x1.2.1 ((I.of .u8 127) :: [])) (@subL (I .u8) x1.1.1 0 127))))
            (brn (@inB' .i64 (I.of .i64 127) (@lenL (I .u8) x1.1.1))
             (.again (((@subL (I .u8) x1.1.1 127 ((@lenL (I .u8) x1.1.1) - 127)), ()), ((@appL (I .u8) (@appL (I .u8) x1.2.1 ((I.of .u8 127) :: [])) (@subL (I .u8) x1.1.1 0 127)), ())))
             (.done (none)))
            (.done (none)))
           (.done (none)))
          (.done (none)))
         (brn (fitsLen (@lenL (I .u8) (@appL (I .u8) x1.2.1 ((I.conv (k := .i64) .u8 (I.ofNat .i64 (@lenL (I .u8) x1.1.1))) :: []))))
          (brn (@inB' .i64 (I.ofNat .i64 (@lenL (I .u8) x1.1.1)) (@lenL (I .u8) x1.1.1))
           (brn (fitsLen (@lenL (I .u8) (@appL (I .u8) (@appL (I .u8) x1.2.1 ((I.conv (k := .i64) .u8 (I.ofNat .i64 (@lenL (I .u8) x1.1.1))) :: [])) (@subL (I .u8) x1.1.1 0 (@I.nat .i64 (I.ofNat .i64 (@lenL (I .u8) x1.1.1)))))))
            (brn (@inB' .i64 (I.ofNat .i64 (@lenL (I .u8) x1.1.1)) (@lenL (I .u8) x1.1.1))
             (.again (((@subL (I .u8) x1.1.1 (@I.nat .i64 (I.ofNat .i64 (@lenL (I .u8) x1.1.1))) ((@lenL (I .u8) x1.1.1) - (@I.nat .i64 (I.ofNat .i64 (@lenL (I .u8) x1.1.1))))), ()), ((@appL (I .u8) (@appL (I .u8) x1.2.1 ((I.conv (k := .i64) .u8 (I.ofNat .i64 (@lenL (I .u8) x1.1.1))) :: [])) (@subL (I .u8) x1.1.1 0 (@I.nat .i64 (I.ofNat .i64 (@lenL (I .u8) x1.1.1))))), ())))
             (.done (none)))
            (.done (none)))
           (.done (none)))
          (.done (none))))
        (.done (some ((x1.2.1, ()), ()))))
     K (((@subL (I .u8) x0.1.1 (@I.nat .i64 x0.1.2.1) ((@lenL (I .u8) x0.1.1) - (@I.nat .i64 x0.1.2.1))), ()), (x0.2.1, ())))
     (none))))
 K ((a, ((I.of .i64 0), ((I.of .i64 0), ()))), ([], ()))
noncomputable def pontageref10_Units (K : Nat) (x : (⟨[.pl (.sl (.int .u8)), .pl (.int .u64), .pl (.int .u64)], []⟩ : Tm).D) : Option (⟨[.pl (.int .u64), .pl (.int .i64)], []⟩ : Tm).D :=
 let a : List (I .u8) := x.1.1
 let b : I .u64 := x.1.2.1
 let c : I .u64 := x.1.2.2.1
 brn (@I.ltb .u64 c b)
  (some (((I.of .u64 0), ((I.of .i64 2), ())), ()))
  (brn (@I.ltb .i64 (I.of .i64 4096) (I.ofNat .i64 (@lenL (I .u8) a)))
   (some (((I.of .u64 0), ((I.of .i64 6), ())), ()))
   (optF (none) (pontageref9_Compress K ((a, ()), ())) fun y0 =>
   jn (fun (x1 : (((I .u64) × ((I .u64) × Unit)) × Unit)) =>
     brn (@I.ltb .u64 x1.1.1 x1.1.2.1)
      (some ((x1.1.1, ((I.of .i64 0), ())), ()))
      (some ((x1.1.2.1, ((I.of .i64 0), ())), ()))) fun j1 =>
   brn (@I.ltb .u64 (@I.mul .u64 (I.conv (k := .i64) .u64 (I.ofNat .i64 (@lenL (I .u8) y0.1.1))) (I.of .u64 16)) b)
    (j1 ((c, (b, ())), ()))
    (j1 ((c, ((@I.mul .u64 (I.conv (k := .i64) .u64 (I.ofNat .i64 (@lenL (I .u8) y0.1.1))) (I.of .u64 16)), ())), ()))))
noncomputable def pontageref23_gas (K : Nat) (x : (⟨[.pl (.cons (.int .u64) (.cons (.int .u64) (.cons (.int .u64) (.cons (.arr 4 (.int .u64)) (.cons (.int .u64) (.cons (.arr 4 (.int .u64)) (.cons (.arr 4 (.int .u64)) (.cons (.int .u64) (.cons (.sl (.int .u8)) .nil))))))))), .pl (.arr 4 (.int .u64)), .pl (.arr 4 (.int .u64)), .pl (.cons (.int .u64) (.cons (.int .u64) (.cons (.int .u64) (.cons (.arr 4 (.int .u64)) (.cons (.int .u64) (.cons (.arr 4 (.int .u64)) (.cons (.int .u64) (.cons (.arr 4 (.int .u64)) (.cons (.int .u64) (.cons (.int .u64) (.cons (.int .u64) (.cons (.int .u64) .nil))))))))))))], []⟩ : Tm).D) : Option (⟨[.pl (.int .u64), .pl (.int .u64), .pl (.int .i64)], []⟩ : Tm).D :=
 let a : (I .u64) × (I .u64) × (I .u64) × ((I .u64) × (I .u64) × (I .u64) × (I .u64) × Unit) × (I .u64) × ((I .u64) × (I .u64) × (I .u64) × (I .u64) × Unit) × ((I .u64) × (I .u64) × (I .u64) × (I .u64) × Unit) × (I .u64) × (List (I .u8)) × Unit := x.1.1
 let b : (I .u64) × (I .u64) × (I .u64) × (I .u64) × Unit := x.1.2.1
 let c : (I .u64) × (I .u64) × (I .u64) × (I .u64) × Unit := x.1.2.2.1
 let d : (I .u64) × (I .u64) × (I .u64) × ((I .u64) × (I .u64) × (I .u64) × (I .u64) × Unit) × (I .u64) × ((I .u64) × (I .u64) × (I .u64) × (I .u64) × Unit) × (I .u64) × ((I .u64) × (I .u64) × (I .u64) × (I .u64) × Unit) × (I .u64) × (I .u64) × (I .u64) × (I .u64) × Unit := x.1.2.2.2.1
 optF (none) (pontageref12_Valid K ((d, ()), ())) fun y0 =>
 brn (bnot y0.1.1)
  (some (((I.of .u64 0), ((I.of .u64 0), ((I.of .i64 15), ()))), ()))
  (optF (none) (pontageref1_IsZero K ((b, ()), ())) fun y1 =>
  brn y1.1.1
   (some (((I.of .u64 0), ((I.of .u64 0), ((I.of .i64 5), ()))), ()))
   (optF (none) (pontageref1_FromUint256 K ((a.2.2.2.2.2.1, ()), ())) fun y2 =>
   optF (none) (pontageref1_FromUint256 K ((b, ()), ())) fun y3 =>
   optF (none) (pontageref1_Cmp K ((y2.1.1, (y3.1.1, ())), ())) fun y4 =>
   brn (@I.ltb .i64 y4.1.1 (I.of .i64 0))
    (some (((I.of .u64 0), ((I.of .u64 0), ((I.of .i64 12), ()))), ()))
    (optF (none) (pontageref10_Units K ((a.2.2.2.2.2.2.2.2.1, (d.2.2.2.2.2.2.2.2.2.2.1, (d.2.2.2.2.2.2.2.2.2.2.2.1, ()))), ())) fun y5 =>
    brn (@I.neb .i64 y5.1.2.1 (I.of .i64 0))
     (some (((I.of .u64 0), ((I.of .u64 0), (y5.1.2.1, ()))), ()))
     (optF (none) (pontageref1_FromUint64 K ((y5.1.1, ()), ())) fun y6 =>
     optF (none) (pontageref1_FromUint256 K ((c, ()), ())) fun y7 =>
     optF (none) (pontageref1_Mul K ((y6.1.1, (y7.1.1, ())), ())) fun y8 =>
     optF (none) (pontageref1_Fits K ((y8.1.1, ()), ())) fun y9 =>
     brn (bnot y9.1.1)
      (some (((I.of .u64 0), ((I.of .u64 0), ((I.of .i64 4), ()))), ()))
      (optF (none) (pontageref1_FromUint256 K ((b, ()), ())) fun y10 =>
      optF (none) (pontageref1_Div K ((y8.1.1, (y10.1.1, ())), ())) fun y11 =>
      optF (none) (pontageref1_FromUint64 K ((a.2.2.2.2.1, ()), ())) fun y12 =>
      optF (none) (pontageref1_Cmp K ((y11.1.1, (y12.1.1, ())), ())) fun y13 =>
      brn (@I.ltb .i64 (I.of .i64 0) y13.1.1)
       (some (((I.of .u64 0), ((I.of .u64 0), ((I.of .i64 13), ()))), ()))
       (optF (none) (pontageref1_ToUint256 K ((y11.1.1, ()), ())) fun y14 =>
       some ((y5.1.1, (y14.1.1.1, ((I.of .i64 0), ()))), ())))))))
noncomputable def pontageref23_Compute (K : Nat) (x : (⟨[.pl (.cons (.int .u64) (.cons (.int .u64) (.cons (.int .u64) (.cons (.arr 4 (.int .u64)) (.cons (.int .u64) (.cons (.arr 4 (.int .u64)) (.cons (.arr 4 (.int .u64)) (.cons (.int .u64) (.cons (.sl (.int .u8)) .nil))))))))), .pl (.arr 4 (.int .u64)), .pl (.arr 4 (.int .u64)), .pl (.cons (.int .u64) (.cons (.int .u64) (.cons (.int .u64) (.cons (.arr 4 (.int .u64)) (.cons (.int .u64) (.cons (.arr 4 (.int .u64)) (.cons (.int .u64) (.cons (.arr 4 (.int .u64)) (.cons (.int .u64) (.cons (.int .u64) (.cons (.int .u64) (.cons (.int .u64) .nil))))))))))))], []⟩ : Tm).D) : Option (⟨[.pl (.cons (.int .u64) (.cons (.int .u64) (.cons (.int .u64) (.cons (.int .u64) (.cons .bool (.cons (.arr 4 (.int .u64)) (.cons (.arr 4 (.int .u64)) (.cons (.arr 4 (.int .u64)) (.cons (.arr 4 (.int .u64)) (.cons (.arr 4 (.int .u64)) .nil)))))))))), .pl (.int .i64)], []⟩ : Tm).D :=
 let a : (I .u64) × (I .u64) × (I .u64) × ((I .u64) × (I .u64) × (I .u64) × (I .u64) × Unit) × (I .u64) × ((I .u64) × (I .u64) × (I .u64) × (I .u64) × Unit) × ((I .u64) × (I .u64) × (I .u64) × (I .u64) × Unit) × (I .u64) × (List (I .u8)) × Unit := x.1.1
 let b : (I .u64) × (I .u64) × (I .u64) × (I .u64) × Unit := x.1.2.1
 let c : (I .u64) × (I .u64) × (I .u64) × (I .u64) × Unit := x.1.2.2.1
 let d : (I .u64) × (I .u64) × (I .u64) × ((I .u64) × (I .u64) × (I .u64) × (I .u64) × Unit) × (I .u64) × ((I .u64) × (I .u64) × (I .u64) × (I .u64) × Unit) × (I .u64) × ((I .u64) × (I .u64) × (I .u64) × (I .u64) × Unit) × (I .u64) × (I .u64) × (I .u64) × (I .u64) × Unit := x.1.2.2.2.1
 optF (none) (pontageref23_gas K ((a, (b, (c, (d, ())))), ())) fun y0 =>
 brn (@I.neb .i64 y0.1.2.2.1 (I.of .i64 0))
  (some ((((I.of .u64 0), ((I.of .u64 0), ((I.of .u64 0), ((I.of .u64 0), (false, (((I.of .u64 0), ((I.of .u64 0), ((I.of .u64 0), ((I.of .u64 0), ())))), (((I.of .u64 0), ((I.of .u64 0), ((I.of .u64 0), ((I.of .u64 0), ())))), (((I.of .u64 0), ((I.of .u64 0), ((I.of .u64 0), ((I.of .u64 0), ())))), (((I.of .u64 0), ((I.of .u64 0), ((I.of .u64 0), ((I.of .u64 0), ())))), (((I.of .u64 0), ((I.of .u64 0), ((I.of .u64 0), ((I.of .u64 0), ())))), ())))))))))), (y0.1.2.2.1, ())), ()))
  (jn (fun (x1 : (((I .u64) × Unit) × (((I .u64) × ((I .u64) × ((I .u64) × (((I .u64) × ((I .u64) × ((I .u64) × ((I .u64) × Unit)))) × ((I .u64) × (((I .u64) × ((I .u64) × ((I .u64) × ((I .u64) × Unit)))) × (((I .u64) × ((I .u64) × ((I .u64) × ((I .u64) × Unit)))) × ((I .u64) × ((List (I .u8)) × Unit))))))))) × (((I .u64) × ((I .u64) × ((I .u64) × ((I .u64) × Unit)))) × (((I .u64) × ((I .u64) × ((I .u64) × (((I .u64) × ((I .u64) × ((I .u64) × ((I .u64) × Unit)))) × ((I .u64) × (((I .u64) × ((I .u64) × ((I .u64) × ((I .u64) × Unit)))) × ((I .u64) × (((I .u64) × ((I .u64) × ((I .u64) × ((I .u64) × Unit)))) × ((I .u64) × ((I .u64) × ((I .u64) × ((I .u64) × Unit)))))))))))) × (((I .u64) × ((I .u64) × ((I .u64) × ((I .u64) × (Bool × (((I .u64) × ((I .u64) × ((I .u64) × ((I .u64) × Unit)))) × (((I .u64) × ((I .u64) × ((I .u64) × ((I .u64) × Unit)))) × (((I .u64) × ((I .u64) × ((I .u64) × ((I .u64) × Unit)))) × (((I .u64) × ((I .u64) × ((I .u64) × ((I .u64) × Unit)))) × (((I .u64) × ((I .u64) × ((I .u64) × ((I .u64) × Unit)))) × Unit)))))))))) × (((I .u64) × ((I .u64) × ((I .u64) × ((I .u64) × (Bool × (((I .u64) × ((I .u64) × ((I .u64) × ((I .u64) × Unit)))) × (((I .u64) × ((I .u64) × ((I .u64) × ((I .u64) × Unit)))) × (((I .u64) × ((I .u64) × ((I .u64) × ((I .u64) × Unit)))) × (((I .u64) × ((I .u64) × ((I .u64) × ((I .u64) × Unit)))) × (((I .u64) × ((I .u64) × ((I .u64) × ((I .u64) × Unit)))) × Unit)))))))))) × Unit))))))) =>
    optF (none) (pontageref1_FromUint256 K ((x1.2.2.1, ()), ())) fun y2 =>
    optF (none) (pontageref23_tip K ((x1.2.1, (x1.2.2.1, ())), ())) fun y3 =>
    optF (none) (pontageref1_FromUint64 K ((x1.1.1, ()), ())) fun y4 =>
    optF (none) (pontageref1_Mul K ((y2.1.1, (y4.1.1, ())), ())) fun y5 =>
    optF (none) (pontageref1_FromUint64 K ((x1.2.2.2.2.2.1.2.2.1, ()), ())) fun y6 =>
    optF (none) (pontageref1_Mul K ((y2.1.1, (y6.1.1, ())), ())) fun y7 =>
    optF (none) (pontageref1_FromUint256 K ((x1.2.2.2.1.2.2.2.2.2.1, ()), ())) fun y8 =>
    optF (none) (pontageref1_Min K ((y8.1.1, (y2.1.1, ())), ())) fun y9 =>
    optF (none) (pontageref1_FromUint64 K ((x1.2.2.2.2.2.1.2.2.1, ()), ())) fun y10 =>
    optF (none) (pontageref1_Mul K ((y9.1.1, (y10.1.1, ())), ())) fun y11 =>
    optF (none) (pontageref1_Sub K ((y7.1.1, (y11.1.1, ())), ())) fun y12 =>
    optF (none) (pontageref1_FromUint64 K ((x1.2.2.2.1.2.2.2.2.2.2.1, ()), ())) fun y13 =>
    optF (none) (pontageref1_Mul K ((y12.1.1, (y13.1.1, ())), ())) fun y14 =>
    optF (none) (pontageref1_FromUint64 K (((I.of .u64 10000), ()), ())) fun y15 =>
    optF (none) (pontageref1_Div K ((y14.1.1, (y15.1.1, ())), ())) fun y16 =>
    optF (none) (pontageref1_Sub K ((y12.1.1, (y16.1.1, ())), ())) fun y17 =>
    optF (none) (pontageref1_FromUint64 K (((@I.add .u64 x1.1.1 x1.2.2.2.2.2.1.2.2.1), ()), ())) fun y18 =>
    optF (none) (pontageref1_Mul K ((y3.1.1, (y18.1.1, ())), ())) fun y19 =>
    optF (none) (pontageref1_Add K ((y17.1.1, (y19.1.1, ())), ())) fun y20 =>
    jn (fun (x21 : (((List (I .i64)) × ((List (I .i64)) × ((List (I .i64)) × ((List (I .i64)) × ((List (I .i64)) × Unit))))) × (((I .u64) × ((I .u64) × ((I .u64) × ((I .u64) × (Bool × (((I .u64) × ((I .u64) × ((I .u64) × ((I .u64) × Unit)))) × (((I .u64) × ((I .u64) × ((I .u64) × ((I .u64) × Unit)))) × (((I .u64) × ((I .u64) × ((I .u64) × ((I .u64) × Unit)))) × (((I .u64) × ((I .u64) × ((I .u64) × ((I .u64) × Unit)))) × (((I .u64) × ((I .u64) × ((I .u64) × ((I .u64) × Unit)))) × Unit)))))))))) × (((I .u64) × ((I .u64) × ((I .u64) × ((I .u64) × (Bool × (((I .u64) × ((I .u64) × ((I .u64) × ((I .u64) × Unit)))) × (((I .u64) × ((I .u64) × ((I .u64) × ((I .u64) × Unit)))) × (((I .u64) × ((I .u64) × ((I .u64) × ((I .u64) × Unit)))) × (((I .u64) × ((I .u64) × ((I .u64) × ((I .u64) × Unit)))) × (((I .u64) × ((I .u64) × ((I .u64) × ((I .u64) × Unit)))) × Unit)))))))))) × Unit)))) =>
      optF (none) (pontageref1_ToUint256 K ((x21.1.1, ()), ())) fun y22 =>
      optF (none) (pontageref1_ToUint256 K ((x21.1.2.1, ()), ())) fun y23 =>
      optF (none) (pontageref1_ToUint256 K ((x21.1.2.2.1, ()), ())) fun y24 =>
      optF (none) (pontageref1_ToUint256 K ((x21.1.2.2.2.1, ()), ())) fun y25 =>
      optF (none) (pontageref1_ToUint256 K ((x21.1.2.2.2.2.1, ()), ())) fun y26 =>
      some (((x21.2.2.1.1, (x21.2.2.1.2.1, (x21.2.2.1.2.2.1, (x21.2.2.1.2.2.2.1, (x21.2.2.1.2.2.2.2.1, (y22.1.1, (y23.1.1, (y24.1.1, (y26.1.1, (y25.1.1, x21.2.2.1.2.2.2.2.2.2.2.2.2.2)))))))))), ((I.of .i64 0), ())), ())) fun j21 =>
    optF (none) (pontageref1_Fits K ((y5.1.1, ()), ())) fun y22 =>
    brn (bnot y22.1.1)
     (some ((((I.of .u64 0), ((I.of .u64 0), ((I.of .u64 0), ((I.of .u64 0), (false, (((I.of .u64 0), ((I.of .u64 0), ((I.of .u64 0), ((I.of .u64 0), ())))), (((I.of .u64 0), ((I.of .u64 0), ((I.of .u64 0), ((I.of .u64 0), ())))), (((I.of .u64 0), ((I.of .u64 0), ((I.of .u64 0), ((I.of .u64 0), ())))), (((I.of .u64 0), ((I.of .u64 0), ((I.of .u64 0), ((I.of .u64 0), ())))), (((I.of .u64 0), ((I.of .u64 0), ((I.of .u64 0), ((I.of .u64 0), ())))), ())))))))))), ((I.of .i64 4), ())), ()))
     (optF (none) (pontageref1_Fits K ((y7.1.1, ()), ())) fun y23 =>
     brn (bnot y23.1.1)
      (some ((((I.of .u64 0), ((I.of .u64 0), ((I.of .u64 0), ((I.of .u64 0), (false, (((I.of .u64 0), ((I.of .u64 0), ((I.of .u64 0), ((I.of .u64 0), ())))), (((I.of .u64 0), ((I.of .u64 0), ((I.of .u64 0), ((I.of .u64 0), ())))), (((I.of .u64 0), ((I.of .u64 0), ((I.of .u64 0), ((I.of .u64 0), ())))), (((I.of .u64 0), ((I.of .u64 0), ((I.of .u64 0), ((I.of .u64 0), ())))), (((I.of .u64 0), ((I.of .u64 0), ((I.of .u64 0), ((I.of .u64 0), ())))), ())))))))))), ((I.of .i64 4), ())), ()))
      (optF (none) (pontageref1_Fits K ((y20.1.1, ()), ())) fun y24 =>
      brn (bnot y24.1.1)
       (some ((((I.of .u64 0), ((I.of .u64 0), ((I.of .u64 0), ((I.of .u64 0), (false, (((I.of .u64 0), ((I.of .u64 0), ((I.of .u64 0), ((I.of .u64 0), ())))), (((I.of .u64 0), ((I.of .u64 0), ((I.of .u64 0), ((I.of .u64 0), ())))), (((I.of .u64 0), ((I.of .u64 0), ((I.of .u64 0), ((I.of .u64 0), ())))), (((I.of .u64 0), ((I.of .u64 0), ((I.of .u64 0), ((I.of .u64 0), ())))), (((I.of .u64 0), ((I.of .u64 0), ((I.of .u64 0), ((I.of .u64 0), ())))), ())))))))))), ((I.of .i64 4), ())), ()))
       (j21 ((y3.1.1, (y5.1.1, (y11.1.1, (y16.1.1, (y20.1.1, ()))))), (x1.2.2.2.2.1, ((x1.2.2.2.2.2.1.1, (x1.2.2.2.2.2.1.2.1, (x1.2.2.2.2.2.1.2.2.1, ((@I.add .u64 x1.1.1 x1.2.2.2.2.2.1.2.2.1), x1.2.2.2.2.2.1.2.2.2.2)))), ()))))))) fun j1 =>
  brn (@I.ltb .u64 (@I.sub .u64 a.2.2.2.2.1 y0.1.2.1) a.2.2.2.2.2.2.2.1)
   (j1 ((y0.1.2.1, ()), (a, (b, (d, (((I.of .u64 0), ((I.of .u64 0), ((I.of .u64 0), ((I.of .u64 0), (false, (((I.of .u64 0), ((I.of .u64 0), ((I.of .u64 0), ((I.of .u64 0), ())))), (((I.of .u64 0), ((I.of .u64 0), ((I.of .u64 0), ((I.of .u64 0), ())))), (((I.of .u64 0), ((I.of .u64 0), ((I.of .u64 0), ((I.of .u64 0), ())))), (((I.of .u64 0), ((I.of .u64 0), ((I.of .u64 0), ((I.of .u64 0), ())))), (((I.of .u64 0), ((I.of .u64 0), ((I.of .u64 0), ((I.of .u64 0), ())))), ())))))))))), ((y0.1.1, (y0.1.2.1, ((@I.sub .u64 a.2.2.2.2.1 y0.1.2.1), ((I.of .u64 0), (true, (((I.of .u64 0), ((I.of .u64 0), ((I.of .u64 0), ((I.of .u64 0), ())))), (((I.of .u64 0), ((I.of .u64 0), ((I.of .u64 0), ((I.of .u64 0), ())))), (((I.of .u64 0), ((I.of .u64 0), ((I.of .u64 0), ((I.of .u64 0), ())))), (((I.of .u64 0), ((I.of .u64 0), ((I.of .u64 0), ((I.of .u64 0), ())))), (((I.of .u64 0), ((I.of .u64 0), ((I.of .u64 0), ((I.of .u64 0), ())))), ())))))))))), ())))))))
   (j1 ((y0.1.2.1, ()), (a, (b, (d, (((I.of .u64 0), ((I.of .u64 0), ((I.of .u64 0), ((I.of .u64 0), (false, (((I.of .u64 0), ((I.of .u64 0), ((I.of .u64 0), ((I.of .u64 0), ())))), (((I.of .u64 0), ((I.of .u64 0), ((I.of .u64 0), ((I.of .u64 0), ())))), (((I.of .u64 0), ((I.of .u64 0), ((I.of .u64 0), ((I.of .u64 0), ())))), (((I.of .u64 0), ((I.of .u64 0), ((I.of .u64 0), ((I.of .u64 0), ())))), (((I.of .u64 0), ((I.of .u64 0), ((I.of .u64 0), ((I.of .u64 0), ())))), ())))))))))), ((y0.1.1, (y0.1.2.1, (a.2.2.2.2.2.2.2.1, ((I.of .u64 0), (false, (((I.of .u64 0), ((I.of .u64 0), ((I.of .u64 0), ((I.of .u64 0), ())))), (((I.of .u64 0), ((I.of .u64 0), ((I.of .u64 0), ((I.of .u64 0), ())))), (((I.of .u64 0), ((I.of .u64 0), ((I.of .u64 0), ((I.of .u64 0), ())))), (((I.of .u64 0), ((I.of .u64 0), ((I.of .u64 0), ((I.of .u64 0), ())))), (((I.of .u64 0), ((I.of .u64 0), ((I.of .u64 0), ((I.of .u64 0), ())))), ())))))))))), ()))))))))
end Sym

/- The given functions as plain functions, as the printer told them. -/
namespace Sym
open Go
noncomputable abbrev Z_U : U := ((I.of .u64 0), ((I.of .u64 0), ((I.of .u64 0), ((I.of .u64 0), ()))))
abbrev S_api_Poster : Type := (I .u64) × (U × (U × (U × (U × ((I .u64) × Unit)))))
noncomputable abbrev Z_S_api_Poster : S_api_Poster := ((I.of .u64 0), (Z_U, (Z_U, (Z_U, (Z_U, ((I.of .u64 0), ()))))))
noncomputable def pontageref17_Sorted (K : Nat) (x : (⟨[.pl (.sl (.cons (.int .u64) (.cons (.arr 4 (.int .u64)) (.cons (.arr 4 (.int .u64)) (.cons (.arr 4 (.int .u64)) (.cons (.arr 4 (.int .u64)) (.cons (.int .u64) .nil)))))))], []⟩ : Tm).D) : Option (⟨[.pl (.sl (.cons (.int .u64) (.cons (.arr 4 (.int .u64)) (.cons (.arr 4 (.int .u64)) (.cons (.arr 4 (.int .u64)) (.cons (.arr 4 (.int .u64)) (.cons (.int .u64) .nil)))))))], []⟩ : Tm).D :=
 let a : (List S_api_Poster) := x.1.1
 iter (none) (fun x0 =>
   brn (@I.ltb .i64 x0.1.2.1 (I.ofNat .i64 (@lenL S_api_Poster x0.1.1)))
    (brn (@inB .i64 x0.1.2.1 (@lenL S_api_Poster x0.1.1))
     (brn (Ty.eqb (.arr 4 (.int .u64)) (@rdL S_api_Poster Z_S_api_Poster x0.1.1 (@I.nat .i64 x0.1.2.1)).2.1 Z_U)
      (.again ((x0.1.1, ((@I.add .i64 x0.1.2.1 (I.of .i64 1)), ())), (x0.2.1, ())))
      (jn (fun (x1 : (((List S_api_Poster) × ((I .i64) × ((I .i64) × Unit))) × ((List S_api_Poster) × Unit))) =>
        brn (@inB' .i64 x1.1.2.2.1 (@lenL S_api_Poster x1.2.1))
         (brn (@eqV .i64 .i64 x1.1.2.2.1 x1.1.2.2.1)
          (brn (@inB .i64 x1.1.2.1 (@lenL S_api_Poster x1.1.1))
           (brn (@inB' .i64 x1.1.2.2.1 (@lenL S_api_Poster x1.2.1))
            (brn (fitsLen (@lenL S_api_Poster (@appL S_api_Poster ((@rdL S_api_Poster Z_S_api_Poster x1.1.1 (@I.nat .i64 x1.1.2.1)) :: []) (@subL S_api_Poster x1.2.1 (@I.nat .i64 x1.1.2.2.1) ((@lenL S_api_Poster x1.2.1) - (@I.nat .i64 x1.1.2.2.1))))))
             (brn (fitsLen (@lenL S_api_Poster (@appL S_api_Poster (@subL S_api_Poster x1.2.1 0 (@I.nat .i64 x1.1.2.2.1)) (@appL S_api_Poster ((@rdL S_api_Poster Z_S_api_Poster x1.1.1 (@I.nat .i64 x1.1.2.1)) :: []) (@subL S_api_Poster x1.2.1 (@I.nat .i64 x1.1.2.2.1) ((@lenL S_api_Poster x1.2.1) - (@I.nat .i64 x1.1.2.2.1)))))))
              (brn (emptyN (@lenL S_api_Poster (@appL S_api_Poster ((@rdL S_api_Poster Z_S_api_Poster x1.1.1 (@I.nat .i64 x1.1.2.1)) :: []) (@subL S_api_Poster x1.2.1 (@I.nat .i64 x1.1.2.2.1) ((@lenL S_api_Poster x1.2.1) - (@I.nat .i64 x1.1.2.2.1))))))
               (.done (none))
               (.again ((x1.1.1, ((@I.add .i64 x1.1.2.1 (I.of .i64 1)), ())), ((@appL S_api_Poster (@subL S_api_Poster x1.2.1 0 (@I.nat .i64 x1.1.2.2.1)) (@appL S_api_Poster ((@rdL S_api_Poster Z_S_api_Poster x1.1.1 (@I.nat .i64 x1.1.2.1)) :: []) (@subL S_api_Poster x1.2.1 (@I.nat .i64 x1.1.2.2.1) ((@lenL S_api_Poster x1.2.1) - (@I.nat .i64 x1.1.2.2.1))))), ()))))
              (.done (none)))
             (.done (none)))
            (.done (none)))
           (.done (none)))
          (.done (none)))
         (.done (none))) fun j1 =>
      iter (.done (none)) (fun x2 =>
        brn (@I.ltb .i64 (I.of .i64 0) x2.1.2.2.1)
         (brn (@inB .i64 (@I.sub .i64 x2.1.2.2.1 (I.of .i64 1)) (@lenL S_api_Poster x2.2.1))
          (brn (@inB .i64 x2.1.2.1 (@lenL S_api_Poster x2.1.1))
           (brn (@I.ltb .u64 (@rdL S_api_Poster Z_S_api_Poster x2.1.1 (@I.nat .i64 x2.1.2.1)).2.2.2.2.2.1 (@rdL S_api_Poster Z_S_api_Poster x2.2.1 (@I.nat .i64 (@I.sub .i64 x2.1.2.2.1 (I.of .i64 1)))).2.2.2.2.2.1)
            (.again ((x2.1.1, (x2.1.2.1, ((@I.sub .i64 x2.1.2.2.1 (I.of .i64 1)), ()))), (x2.2.1, ())))
            (brn (@inB .i64 (@I.sub .i64 x2.1.2.2.1 (I.of .i64 1)) (@lenL S_api_Poster x2.2.1))
             (brn (@inB .i64 x2.1.2.1 (@lenL S_api_Poster x2.1.1))
              (brn (@I.eqb .u64 (@rdL S_api_Poster Z_S_api_Poster x2.2.1 (@I.nat .i64 (@I.sub .i64 x2.1.2.2.1 (I.of .i64 1)))).2.2.2.2.2.1 (@rdL S_api_Poster Z_S_api_Poster x2.1.1 (@I.nat .i64 x2.1.2.1)).2.2.2.2.2.1)
               (brn (@inB .i64 (@I.sub .i64 x2.1.2.2.1 (I.of .i64 1)) (@lenL S_api_Poster x2.2.1))
                (brn (@inB .i64 x2.1.2.1 (@lenL S_api_Poster x2.1.1))
                 (brn (@I.ltb .u64 (@rdL S_api_Poster Z_S_api_Poster x2.1.1 (@I.nat .i64 x2.1.2.1)).1 (@rdL S_api_Poster Z_S_api_Poster x2.2.1 (@I.nat .i64 (@I.sub .i64 x2.1.2.2.1 (I.of .i64 1)))).1)
                  (.again ((x2.1.1, (x2.1.2.1, ((@I.sub .i64 x2.1.2.2.1 (I.of .i64 1)), ()))), (x2.2.1, ())))
                  (.done (j1 ((x2.1.1, (x2.1.2.1, (x2.1.2.2.1, ()))), (x2.2.1, ())))))
                 (.done (.done (none))))
                (.done (.done (none))))
               (.done (j1 ((x2.1.1, (x2.1.2.1, (x2.1.2.2.1, ()))), (x2.2.1, ())))))
              (.done (.done (none))))
             (.done (.done (none)))))
           (.done (.done (none))))
          (.done (.done (none))))
         (.done (j1 ((x2.1.1, (x2.1.2.1, (x2.1.2.2.1, ()))), (x2.2.1, ())))))
      K ((x0.1.1, (x0.1.2.1, ((I.ofNat .i64 (@lenL S_api_Poster x0.2.1)), ()))), (x0.2.1, ()))))
     (.done (none)))
    (.done (some ((x0.2.1, ()), ()))))
 K ((a, ((I.of .i64 0), ())), ([], ()))
end Sym

/- The given functions as plain functions, as the printer told them. -/
namespace Sym
open Go
abbrev S_api_Payment : Type := (I .u64) × (U × Unit)
noncomputable abbrev Z_S_api_Payment : S_api_Payment := ((I.of .u64 0), (Z_U, ()))
noncomputable def pontageref16_ValidPoster (K : Nat) (x : (⟨[.pl (.cons (.int .u64) (.cons (.arr 4 (.int .u64)) (.cons (.arr 4 (.int .u64)) (.cons (.arr 4 (.int .u64)) (.cons (.arr 4 (.int .u64)) (.cons (.int .u64) .nil))))))], []⟩ : Tm).D) : Option (⟨[.pl .bool], []⟩ : Tm).D :=
 let a : S_api_Poster := x.1.1
 optF (none) (pontageref1_FromUint256 K ((a.2.1, ()), ())) fun y0 =>
 optF (none) (pontageref1_FromUint256 K ((a.2.2.2.2.1, ()), ())) fun y1 =>
 optF (none) (pontageref1_Add K ((y0.1.1, (y1.1.1, ())), ())) fun y2 =>
 optF (none) (pontageref1_FromUint256 K ((a.2.2.1, ()), ())) fun y3 =>
 optF (none) (pontageref1_FromUint256 K ((a.2.2.2.1, ()), ())) fun y4 =>
 optF (none) (pontageref1_Add K ((y3.1.1, (y4.1.1, ())), ())) fun y5 =>
 brn (@I.neb .u64 a.1 (I.of .u64 0))
  (optF (none) (pontageref1_Cmp K ((y2.1.1, (y5.1.1, ())), ())) fun y6 =>
  brn (@I.eqb .i64 y6.1.1 (I.of .i64 0))
   (optF (none) (pontageref1_IsZero K ((a.2.1, ()), ())) fun y7 =>
   some (((Ty.eqb .bool (@I.eqb .u64 a.2.2.2.2.2.1 (I.of .u64 0)) y7.1.1), ()), ()))
   (some ((false, ()), ())))
  (some ((false, ()), ()))
noncomputable def pontageref16_Valid (K : Nat) (x : (⟨[.pl (.sl (.cons (.int .u64) (.cons (.arr 4 (.int .u64)) (.cons (.arr 4 (.int .u64)) (.cons (.arr 4 (.int .u64)) (.cons (.arr 4 (.int .u64)) (.cons (.int .u64) .nil)))))))], []⟩ : Tm).D) : Option (⟨[.pl .bool], []⟩ : Tm).D :=
 let a : (List S_api_Poster) := x.1.1
 brn (@I.ltb .i64 (I.of .i64 64) (I.ofNat .i64 (@lenL S_api_Poster a)))
  (some ((false, ()), ()))
  (iter (none) (fun x0 =>
    brn (@I.ltb .i64 x0.1.2.1 (I.ofNat .i64 (@lenL S_api_Poster x0.1.1)))
     (brn (@inB .i64 x0.1.2.1 (@lenL S_api_Poster x0.1.1))
      (optF (.done (none)) (pontageref16_ValidPoster K (((@rdL S_api_Poster Z_S_api_Poster x0.1.1 (@I.nat .i64 x0.1.2.1)), ()), ())) fun y1 =>
      brn (bnot y1.1.1)
       (.done (some ((false, ()), ())))
       (brn (@I.ltb .i64 (I.of .i64 0) x0.1.2.1)
        (brn (@inB .i64 x0.1.2.1 (@lenL S_api_Poster x0.1.1))
         (brn (@inB .i64 (@I.sub .i64 x0.1.2.1 (I.of .i64 1)) (@lenL S_api_Poster x0.1.1))
          (brn (@I.leb .u64 (@rdL S_api_Poster Z_S_api_Poster x0.1.1 (@I.nat .i64 x0.1.2.1)).1 (@rdL S_api_Poster Z_S_api_Poster x0.1.1 (@I.nat .i64 (@I.sub .i64 x0.1.2.1 (I.of .i64 1)))).1)
           (.done (some ((false, ()), ())))
           (.again ((x0.1.1, ((@I.add .i64 x0.1.2.1 (I.of .i64 1)), ())), ())))
          (.done (none)))
         (.done (none)))
        (.again ((x0.1.1, ((@I.add .i64 x0.1.2.1 (I.of .i64 1)), ())), ()))))
      (.done (none)))
     (.done (some ((true, ()), ()))))
  K ((a, ((I.of .i64 0), ())), ()))
noncomputable def pontageref16_Find (K : Nat) (x : (⟨[.pl (.sl (.cons (.int .u64) (.cons (.arr 4 (.int .u64)) (.cons (.arr 4 (.int .u64)) (.cons (.arr 4 (.int .u64)) (.cons (.arr 4 (.int .u64)) (.cons (.int .u64) .nil))))))), .pl (.int .u64)], []⟩ : Tm).D) : Option (⟨[.pl (.int .i64)], []⟩ : Tm).D :=
 let a : (List S_api_Poster) := x.1.1
 let b : (I .u64) := x.1.2.1
 iter (none) (fun x0 =>
   brn (@I.ltb .i64 x0.1.2.2.1 (I.ofNat .i64 (@lenL S_api_Poster x0.1.1)))
    (brn (@inB .i64 x0.1.2.2.1 (@lenL S_api_Poster x0.1.1))
     (brn (@I.eqb .u64 (@rdL S_api_Poster Z_S_api_Poster x0.1.1 (@I.nat .i64 x0.1.2.2.1)).1 x0.1.2.1)
      (.done (some ((x0.1.2.2.1, ()), ())))
      (.again ((x0.1.1, (x0.1.2.1, ((@I.add .i64 x0.1.2.2.1 (I.of .i64 1)), ()))), ())))
     (.done (none)))
    (.done (some (((I.of .i64 (-1)), ()), ()))))
 K ((a, (b, ((I.of .i64 0), ()))), ())
noncomputable def pontageref16_Add (K : Nat) (x : (⟨[.pl (.sl (.cons (.int .u64) (.cons (.arr 4 (.int .u64)) (.cons (.arr 4 (.int .u64)) (.cons (.arr 4 (.int .u64)) (.cons (.arr 4 (.int .u64)) (.cons (.int .u64) .nil))))))), .pl (.int .u64)], []⟩ : Tm).D) : Option (⟨[.pl (.sl (.cons (.int .u64) (.cons (.arr 4 (.int .u64)) (.cons (.arr 4 (.int .u64)) (.cons (.arr 4 (.int .u64)) (.cons (.arr 4 (.int .u64)) (.cons (.int .u64) .nil))))))), .pl (.int .i64)], []⟩ : Tm).D :=
 let a : (List S_api_Poster) := x.1.1
 let b : (I .u64) := x.1.2.1
 jn (fun (x0 : (((List S_api_Poster) × ((I .u64) × Unit)) × Unit)) =>
   optF (none) (pontageref16_Find K ((x0.1.1, (x0.1.2.1, ())), ())) fun y1 =>
   brn (@I.leb .i64 (I.of .i64 0) y1.1.1)
    (some (([], ((I.of .i64 9), ())), ()))
    (brn (@I.leb .i64 (I.of .i64 64) (I.ofNat .i64 (@lenL S_api_Poster x0.1.1)))
     (some (([], ((I.of .i64 7), ())), ()))
     (iter (none) (fun x2 =>
       brn (@I.ltb .i64 x2.1.2.2.2.1 (I.ofNat .i64 (@lenL S_api_Poster x2.1.1)))
        (jn (fun (x3 : (((List S_api_Poster) × ((I .u64) × (Bool × ((I .i64) × (Bool × Unit))))) × ((List S_api_Poster) × Unit))) =>
          brn x3.1.2.2.2.2.1
           (brn (fitsLen (@lenL S_api_Poster (@appL S_api_Poster x3.2.1 ((x3.1.2.1, (Z_U, (Z_U, (Z_U, (Z_U, ((I.of .u64 0), ())))))) :: []))))
            (brn (@inB .i64 x3.1.2.2.2.1 (@lenL S_api_Poster x3.1.1))
             (brn (fitsLen (@lenL S_api_Poster (@appL S_api_Poster (@appL S_api_Poster x3.2.1 ((x3.1.2.1, (Z_U, (Z_U, (Z_U, (Z_U, ((I.of .u64 0), ())))))) :: [])) ((@rdL S_api_Poster Z_S_api_Poster x3.1.1 (@I.nat .i64 x3.1.2.2.2.1)) :: []))))
              (.again ((x3.1.1, (x3.1.2.1, (true, ((@I.add .i64 x3.1.2.2.2.1 (I.of .i64 1)), ())))), ((@appL S_api_Poster (@appL S_api_Poster x3.2.1 ((x3.1.2.1, (Z_U, (Z_U, (Z_U, (Z_U, ((I.of .u64 0), ())))))) :: [])) ((@rdL S_api_Poster Z_S_api_Poster x3.1.1 (@I.nat .i64 x3.1.2.2.2.1)) :: [])), ())))
              (.done (none)))
             (.done (none)))
            (.done (none)))
           (brn (@inB .i64 x3.1.2.2.2.1 (@lenL S_api_Poster x3.1.1))
            (brn (fitsLen (@lenL S_api_Poster (@appL S_api_Poster x3.2.1 ((@rdL S_api_Poster Z_S_api_Poster x3.1.1 (@I.nat .i64 x3.1.2.2.2.1)) :: []))))
             (.again ((x3.1.1, (x3.1.2.1, (x3.1.2.2.1, ((@I.add .i64 x3.1.2.2.2.1 (I.of .i64 1)), ())))), ((@appL S_api_Poster x3.2.1 ((@rdL S_api_Poster Z_S_api_Poster x3.1.1 (@I.nat .i64 x3.1.2.2.2.1)) :: [])), ())))
             (.done (none)))
            (.done (none)))) fun j3 =>
        brn (bnot x2.1.2.2.1)
         (brn (@inB .i64 x2.1.2.2.2.1 (@lenL S_api_Poster x2.1.1))
          (j3 ((x2.1.1, (x2.1.2.1, (x2.1.2.2.1, (x2.1.2.2.2.1, ((@I.ltb .u64 x2.1.2.1 (@rdL S_api_Poster Z_S_api_Poster x2.1.1 (@I.nat .i64 x2.1.2.2.2.1)).1), ()))))), (x2.2.1, ())))
          (.done (none)))
         (j3 ((x2.1.1, (x2.1.2.1, (x2.1.2.2.1, (x2.1.2.2.2.1, (false, ()))))), (x2.2.1, ()))))
        (.done (brn (bnot x2.1.2.2.1)
         (brn (fitsLen (@lenL S_api_Poster (@appL S_api_Poster x2.2.1 ((x2.1.2.1, (Z_U, (Z_U, (Z_U, (Z_U, ((I.of .u64 0), ())))))) :: []))))
          (some (((@appL S_api_Poster x2.2.1 ((x2.1.2.1, (Z_U, (Z_U, (Z_U, (Z_U, ((I.of .u64 0), ())))))) :: [])), ((I.of .i64 0), ())), ()))
          (none))
         (some ((x2.2.1, ((I.of .i64 0), ())), ())))))
     K ((x0.1.1, (x0.1.2.1, (false, ((I.of .i64 0), ())))), ([], ()))))) fun j0 =>
 optF (none) (pontageref16_Valid K ((a, ()), ())) fun y1 =>
 brn (bnot y1.1.1)
  (some (([], ((I.of .i64 2), ())), ()))
  (brn (@I.eqb .u64 b (I.of .u64 0))
   (some (([], ((I.of .i64 2), ())), ()))
   (j0 ((a, (b, ())), ())))
noncomputable def pontageref1_Sub256 (K : Nat) (x : (⟨[.pl (.arr 4 (.int .u64)), .pl (.arr 4 (.int .u64))], []⟩ : Tm).D) : Option (⟨[.pl (.arr 4 (.int .u64)), .pl (.int .i64)], []⟩ : Tm).D :=
 let a : U := x.1.1
 let b : U := x.1.2.1
 optF (none) (pontageref1_FromUint256 K ((a, ()), ())) fun y0 =>
 optF (none) (pontageref1_FromUint256 K ((b, ()), ())) fun y1 =>
 optF (none) (pontageref1_Cmp K ((y0.1.1, (y1.1.1, ())), ())) fun y2 =>
 brn (@I.ltb .i64 y2.1.1 (I.of .i64 0))
  (some ((Z_U, ((I.of .i64 4), ())), ()))
  (optF (none) (pontageref1_Sub K ((y0.1.1, (y1.1.1, ())), ())) fun y3 =>
  optF (none) (pontageref1_ToUint256 K ((y3.1.1, ()), ())) fun y4 =>
  some ((y4.1.1, ((I.of .i64 0), ())), ()))
noncomputable def pontageref1_Add256 (K : Nat) (x : (⟨[.pl (.arr 4 (.int .u64)), .pl (.arr 4 (.int .u64))], []⟩ : Tm).D) : Option (⟨[.pl (.arr 4 (.int .u64)), .pl (.int .i64)], []⟩ : Tm).D :=
 let a : U := x.1.1
 let b : U := x.1.2.1
 optF (none) (pontageref1_FromUint256 K ((a, ()), ())) fun y0 =>
 optF (none) (pontageref1_FromUint256 K ((b, ()), ())) fun y1 =>
 optF (none) (pontageref1_Add K ((y0.1.1, (y1.1.1, ())), ())) fun y2 =>
 optF (none) (pontageref1_Checked K ((y2.1.1, ()), ())) fun y3 =>
 some ((y3.1.1, (y3.1.2.1, ())), ())
noncomputable def pontageref16_Settle (K : Nat) (x : (⟨[.pl (.sl (.cons (.int .u64) (.cons (.arr 4 (.int .u64)) (.cons (.arr 4 (.int .u64)) (.cons (.arr 4 (.int .u64)) (.cons (.arr 4 (.int .u64)) (.cons (.int .u64) .nil))))))), .pl (.int .u64), .pl (.arr 4 (.int .u64))], []⟩ : Tm).D) : Option (⟨[.pl (.sl (.cons (.int .u64) (.cons (.arr 4 (.int .u64)) (.cons (.arr 4 (.int .u64)) (.cons (.arr 4 (.int .u64)) (.cons (.arr 4 (.int .u64)) (.cons (.int .u64) .nil))))))), .pl (.int .i64)], []⟩ : Tm).D :=
 let a : (List S_api_Poster) := x.1.1
 let b : (I .u64) := x.1.2.1
 let c : U := x.1.2.2.1
 optF (none) (pontageref16_Valid K ((a, ()), ())) fun y0 =>
 brn (bnot y0.1.1)
  (some (([], ((I.of .i64 2), ())), ()))
  (optF (none) (pontageref16_Find K ((a, (b, ())), ())) fun y1 =>
  brn (@I.ltb .i64 y1.1.1 (I.of .i64 0))
   (some (([], ((I.of .i64 8), ())), ()))
   (brn (fitsLen (@lenL S_api_Poster (@appL S_api_Poster [] a)))
    (brn (@inB .i64 y1.1.1 (@lenL S_api_Poster (@appL S_api_Poster [] a)))
     (optF (none) (pontageref1_Sub256 K (((@rdL S_api_Poster Z_S_api_Poster (@appL S_api_Poster [] a) (@I.nat .i64 y1.1.1)).2.1, (c, ())), ())) fun y2 =>
     brn (@I.neb .i64 y2.1.2.1 (I.of .i64 0))
      (some (([], ((I.of .i64 10), ())), ()))
      (optF (none) (pontageref1_Add256 K (((@rdL S_api_Poster Z_S_api_Poster (@appL S_api_Poster [] a) (@I.nat .i64 y1.1.1)).2.2.2.2.1, (c, ())), ())) fun y3 =>
      brn (@I.neb .i64 y3.1.2.1 (I.of .i64 0))
       (some (([], (y3.1.2.1, ())), ()))
       (optF (none) (pontageref1_IsZero K ((y2.1.1, ()), ())) fun y4 =>
       brn y4.1.1
        (some (((@setL S_api_Poster (@setL S_api_Poster (@setL S_api_Poster (@appL S_api_Poster [] a) (@I.nat .i64 y1.1.1) ((@rdL S_api_Poster Z_S_api_Poster (@appL S_api_Poster [] a) (@I.nat .i64 y1.1.1)).1, (y2.1.1, (@rdL S_api_Poster Z_S_api_Poster (@appL S_api_Poster [] a) (@I.nat .i64 y1.1.1)).2.2))) (@I.nat .i64 y1.1.1) ((@rdL S_api_Poster Z_S_api_Poster (@setL S_api_Poster (@appL S_api_Poster [] a) (@I.nat .i64 y1.1.1) ((@rdL S_api_Poster Z_S_api_Poster (@appL S_api_Poster [] a) (@I.nat .i64 y1.1.1)).1, (y2.1.1, (@rdL S_api_Poster Z_S_api_Poster (@appL S_api_Poster [] a) (@I.nat .i64 y1.1.1)).2.2))) (@I.nat .i64 y1.1.1)).1, ((@rdL S_api_Poster Z_S_api_Poster (@setL S_api_Poster (@appL S_api_Poster [] a) (@I.nat .i64 y1.1.1) ((@rdL S_api_Poster Z_S_api_Poster (@appL S_api_Poster [] a) (@I.nat .i64 y1.1.1)).1, (y2.1.1, (@rdL S_api_Poster Z_S_api_Poster (@appL S_api_Poster [] a) (@I.nat .i64 y1.1.1)).2.2))) (@I.nat .i64 y1.1.1)).2.1, ((@rdL S_api_Poster Z_S_api_Poster (@setL S_api_Poster (@appL S_api_Poster [] a) (@I.nat .i64 y1.1.1) ((@rdL S_api_Poster Z_S_api_Poster (@appL S_api_Poster [] a) (@I.nat .i64 y1.1.1)).1, (y2.1.1, (@rdL S_api_Poster Z_S_api_Poster (@appL S_api_Poster [] a) (@I.nat .i64 y1.1.1)).2.2))) (@I.nat .i64 y1.1.1)).2.2.1, ((@rdL S_api_Poster Z_S_api_Poster (@setL S_api_Poster (@appL S_api_Poster [] a) (@I.nat .i64 y1.1.1) ((@rdL S_api_Poster Z_S_api_Poster (@appL S_api_Poster [] a) (@I.nat .i64 y1.1.1)).1, (y2.1.1, (@rdL S_api_Poster Z_S_api_Poster (@appL S_api_Poster [] a) (@I.nat .i64 y1.1.1)).2.2))) (@I.nat .i64 y1.1.1)).2.2.2.1, (y3.1.1, (@rdL S_api_Poster Z_S_api_Poster (@setL S_api_Poster (@appL S_api_Poster [] a) (@I.nat .i64 y1.1.1) ((@rdL S_api_Poster Z_S_api_Poster (@appL S_api_Poster [] a) (@I.nat .i64 y1.1.1)).1, (y2.1.1, (@rdL S_api_Poster Z_S_api_Poster (@appL S_api_Poster [] a) (@I.nat .i64 y1.1.1)).2.2))) (@I.nat .i64 y1.1.1)).2.2.2.2.2)))))) (@I.nat .i64 y1.1.1) ((@rdL S_api_Poster Z_S_api_Poster (@setL S_api_Poster (@setL S_api_Poster (@appL S_api_Poster [] a) (@I.nat .i64 y1.1.1) ((@rdL S_api_Poster Z_S_api_Poster (@appL S_api_Poster [] a) (@I.nat .i64 y1.1.1)).1, (y2.1.1, (@rdL S_api_Poster Z_S_api_Poster (@appL S_api_Poster [] a) (@I.nat .i64 y1.1.1)).2.2))) (@I.nat .i64 y1.1.1) ((@rdL S_api_Poster Z_S_api_Poster (@setL S_api_Poster (@appL S_api_Poster [] a) (@I.nat .i64 y1.1.1) ((@rdL S_api_Poster Z_S_api_Poster (@appL S_api_Poster [] a) (@I.nat .i64 y1.1.1)).1, (y2.1.1, (@rdL S_api_Poster Z_S_api_Poster (@appL S_api_Poster [] a) (@I.nat .i64 y1.1.1)).2.2))) (@I.nat .i64 y1.1.1)).1, ((@rdL S_api_Poster Z_S_api_Poster (@setL S_api_Poster (@appL S_api_Poster [] a) (@I.nat .i64 y1.1.1) ((@rdL S_api_Poster Z_S_api_Poster (@appL S_api_Poster [] a) (@I.nat .i64 y1.1.1)).1, (y2.1.1, (@rdL S_api_Poster Z_S_api_Poster (@appL S_api_Poster [] a) (@I.nat .i64 y1.1.1)).2.2))) (@I.nat .i64 y1.1.1)).2.1, ((@rdL S_api_Poster Z_S_api_Poster (@setL S_api_Poster (@appL S_api_Poster [] a) (@I.nat .i64 y1.1.1) ((@rdL S_api_Poster Z_S_api_Poster (@appL S_api_Poster [] a) (@I.nat .i64 y1.1.1)).1, (y2.1.1, (@rdL S_api_Poster Z_S_api_Poster (@appL S_api_Poster [] a) (@I.nat .i64 y1.1.1)).2.2))) (@I.nat .i64 y1.1.1)).2.2.1, ((@rdL S_api_Poster Z_S_api_Poster (@setL S_api_Poster (@appL S_api_Poster [] a) (@I.nat .i64 y1.1.1) ((@rdL S_api_Poster Z_S_api_Poster (@appL S_api_Poster [] a) (@I.nat .i64 y1.1.1)).1, (y2.1.1, (@rdL S_api_Poster Z_S_api_Poster (@appL S_api_Poster [] a) (@I.nat .i64 y1.1.1)).2.2))) (@I.nat .i64 y1.1.1)).2.2.2.1, (y3.1.1, (@rdL S_api_Poster Z_S_api_Poster (@setL S_api_Poster (@appL S_api_Poster [] a) (@I.nat .i64 y1.1.1) ((@rdL S_api_Poster Z_S_api_Poster (@appL S_api_Poster [] a) (@I.nat .i64 y1.1.1)).1, (y2.1.1, (@rdL S_api_Poster Z_S_api_Poster (@appL S_api_Poster [] a) (@I.nat .i64 y1.1.1)).2.2))) (@I.nat .i64 y1.1.1)).2.2.2.2.2)))))) (@I.nat .i64 y1.1.1)).1, ((@rdL S_api_Poster Z_S_api_Poster (@setL S_api_Poster (@setL S_api_Poster (@appL S_api_Poster [] a) (@I.nat .i64 y1.1.1) ((@rdL S_api_Poster Z_S_api_Poster (@appL S_api_Poster [] a) (@I.nat .i64 y1.1.1)).1, (y2.1.1, (@rdL S_api_Poster Z_S_api_Poster (@appL S_api_Poster [] a) (@I.nat .i64 y1.1.1)).2.2))) (@I.nat .i64 y1.1.1) ((@rdL S_api_Poster Z_S_api_Poster (@setL S_api_Poster (@appL S_api_Poster [] a) (@I.nat .i64 y1.1.1) ((@rdL S_api_Poster Z_S_api_Poster (@appL S_api_Poster [] a) (@I.nat .i64 y1.1.1)).1, (y2.1.1, (@rdL S_api_Poster Z_S_api_Poster (@appL S_api_Poster [] a) (@I.nat .i64 y1.1.1)).2.2))) (@I.nat .i64 y1.1.1)).1, ((@rdL S_api_Poster Z_S_api_Poster (@setL S_api_Poster (@appL S_api_Poster [] a) (@I.nat .i64 y1.1.1) ((@rdL S_api_Poster Z_S_api_Poster (@appL S_api_Poster [] a) (@I.nat .i64 y1.1.1)).1, (y2.1.1, (@rdL S_api_Poster Z_S_api_Poster (@appL S_api_Poster [] a) (@I.nat .i64 y1.1.1)).2.2))) (@I.nat .i64 y1.1.1)).2.1, ((@rdL S_api_Poster Z_S_api_Poster (@setL S_api_Poster (@appL S_api_Poster [] a) (@I.nat .i64 y1.1.1) ((@rdL S_api_Poster Z_S_api_Poster (@appL S_api_Poster [] a) (@I.nat .i64 y1.1.1)).1, (y2.1.1, (@rdL S_api_Poster Z_S_api_Poster (@appL S_api_Poster [] a) (@I.nat .i64 y1.1.1)).2.2))) (@I.nat .i64 y1.1.1)).2.2.1, ((@rdL S_api_Poster Z_S_api_Poster (@setL S_api_Poster (@appL S_api_Poster [] a) (@I.nat .i64 y1.1.1) ((@rdL S_api_Poster Z_S_api_Poster (@appL S_api_Poster [] a) (@I.nat .i64 y1.1.1)).1, (y2.1.1, (@rdL S_api_Poster Z_S_api_Poster (@appL S_api_Poster [] a) (@I.nat .i64 y1.1.1)).2.2))) (@I.nat .i64 y1.1.1)).2.2.2.1, (y3.1.1, (@rdL S_api_Poster Z_S_api_Poster (@setL S_api_Poster (@appL S_api_Poster [] a) (@I.nat .i64 y1.1.1) ((@rdL S_api_Poster Z_S_api_Poster (@appL S_api_Poster [] a) (@I.nat .i64 y1.1.1)).1, (y2.1.1, (@rdL S_api_Poster Z_S_api_Poster (@appL S_api_Poster [] a) (@I.nat .i64 y1.1.1)).2.2))) (@I.nat .i64 y1.1.1)).2.2.2.2.2)))))) (@I.nat .i64 y1.1.1)).2.1, ((@rdL S_api_Poster Z_S_api_Poster (@setL S_api_Poster (@setL S_api_Poster (@appL S_api_Poster [] a) (@I.nat .i64 y1.1.1) ((@rdL S_api_Poster Z_S_api_Poster (@appL S_api_Poster [] a) (@I.nat .i64 y1.1.1)).1, (y2.1.1, (@rdL S_api_Poster Z_S_api_Poster (@appL S_api_Poster [] a) (@I.nat .i64 y1.1.1)).2.2))) (@I.nat .i64 y1.1.1) ((@rdL S_api_Poster Z_S_api_Poster (@setL S_api_Poster (@appL S_api_Poster [] a) (@I.nat .i64 y1.1.1) ((@rdL S_api_Poster Z_S_api_Poster (@appL S_api_Poster [] a) (@I.nat .i64 y1.1.1)).1, (y2.1.1, (@rdL S_api_Poster Z_S_api_Poster (@appL S_api_Poster [] a) (@I.nat .i64 y1.1.1)).2.2))) (@I.nat .i64 y1.1.1)).1, ((@rdL S_api_Poster Z_S_api_Poster (@setL S_api_Poster (@appL S_api_Poster [] a) (@I.nat .i64 y1.1.1) ((@rdL S_api_Poster Z_S_api_Poster (@appL S_api_Poster [] a) (@I.nat .i64 y1.1.1)).1, (y2.1.1, (@rdL S_api_Poster Z_S_api_Poster (@appL S_api_Poster [] a) (@I.nat .i64 y1.1.1)).2.2))) (@I.nat .i64 y1.1.1)).2.1, ((@rdL S_api_Poster Z_S_api_Poster (@setL S_api_Poster (@appL S_api_Poster [] a) (@I.nat .i64 y1.1.1) ((@rdL S_api_Poster Z_S_api_Poster (@appL S_api_Poster [] a) (@I.nat .i64 y1.1.1)).1, (y2.1.1, (@rdL S_api_Poster Z_S_api_Poster (@appL S_api_Poster [] a) (@I.nat .i64 y1.1.1)).2.2))) (@I.nat .i64 y1.1.1)).2.2.1, ((@rdL S_api_Poster Z_S_api_Poster (@setL S_api_Poster (@appL S_api_Poster [] a) (@I.nat .i64 y1.1.1) ((@rdL S_api_Poster Z_S_api_Poster (@appL S_api_Poster [] a) (@I.nat .i64 y1.1.1)).1, (y2.1.1, (@rdL S_api_Poster Z_S_api_Poster (@appL S_api_Poster [] a) (@I.nat .i64 y1.1.1)).2.2))) (@I.nat .i64 y1.1.1)).2.2.2.1, (y3.1.1, (@rdL S_api_Poster Z_S_api_Poster (@setL S_api_Poster (@appL S_api_Poster [] a) (@I.nat .i64 y1.1.1) ((@rdL S_api_Poster Z_S_api_Poster (@appL S_api_Poster [] a) (@I.nat .i64 y1.1.1)).1, (y2.1.1, (@rdL S_api_Poster Z_S_api_Poster (@appL S_api_Poster [] a) (@I.nat .i64 y1.1.1)).2.2))) (@I.nat .i64 y1.1.1)).2.2.2.2.2)))))) (@I.nat .i64 y1.1.1)).2.2.1, ((@rdL S_api_Poster Z_S_api_Poster (@setL S_api_Poster (@setL S_api_Poster (@appL S_api_Poster [] a) (@I.nat .i64 y1.1.1) ((@rdL S_api_Poster Z_S_api_Poster (@appL S_api_Poster [] a) (@I.nat .i64 y1.1.1)).1, (y2.1.1, (@rdL S_api_Poster Z_S_api_Poster (@appL S_api_Poster [] a) (@I.nat .i64 y1.1.1)).2.2))) (@I.nat .i64 y1.1.1) ((@rdL S_api_Poster Z_S_api_Poster (@setL S_api_Poster (@appL S_api_Poster [] a) (@I.nat .i64 y1.1.1) ((@rdL S_api_Poster Z_S_api_Poster (@appL S_api_Poster [] a) (@I.nat .i64 y1.1.1)).1, (y2.1.1, (@rdL S_api_Poster Z_S_api_Poster (@appL S_api_Poster [] a) (@I.nat .i64 y1.1.1)).2.2))) (@I.nat .i64 y1.1.1)).1, ((@rdL S_api_Poster Z_S_api_Poster (@setL S_api_Poster (@appL S_api_Poster [] a) (@I.nat .i64 y1.1.1) ((@rdL S_api_Poster Z_S_api_Poster (@appL S_api_Poster [] a) (@I.nat .i64 y1.1.1)).1, (y2.1.1, (@rdL S_api_Poster Z_S_api_Poster (@appL S_api_Poster [] a) (@I.nat .i64 y1.1.1)).2.2))) (@I.nat .i64 y1.1.1)).2.1, ((@rdL S_api_Poster Z_S_api_Poster (@setL S_api_Poster (@appL S_api_Poster [] a) (@I.nat .i64 y1.1.1) ((@rdL S_api_Poster Z_S_api_Poster (@appL S_api_Poster [] a) (@I.nat .i64 y1.1.1)).1, (y2.1.1, (@rdL S_api_Poster Z_S_api_Poster (@appL S_api_Poster [] a) (@I.nat .i64 y1.1.1)).2.2))) (@I.nat .i64 y1.1.1)).2.2.1, ((@rdL S_api_Poster Z_S_api_Poster (@setL S_api_Poster (@appL S_api_Poster [] a) (@I.nat .i64 y1.1.1) ((@rdL S_api_Poster Z_S_api_Poster (@appL S_api_Poster [] a) (@I.nat .i64 y1.1.1)).1, (y2.1.1, (@rdL S_api_Poster Z_S_api_Poster (@appL S_api_Poster [] a) (@I.nat .i64 y1.1.1)).2.2))) (@I.nat .i64 y1.1.1)).2.2.2.1, (y3.1.1, (@rdL S_api_Poster Z_S_api_Poster (@setL S_api_Poster (@appL S_api_Poster [] a) (@I.nat .i64 y1.1.1) ((@rdL S_api_Poster Z_S_api_Poster (@appL S_api_Poster [] a) (@I.nat .i64 y1.1.1)).1, (y2.1.1, (@rdL S_api_Poster Z_S_api_Poster (@appL S_api_Poster [] a) (@I.nat .i64 y1.1.1)).2.2))) (@I.nat .i64 y1.1.1)).2.2.2.2.2)))))) (@I.nat .i64 y1.1.1)).2.2.2.1, ((@rdL S_api_Poster Z_S_api_Poster (@setL S_api_Poster (@setL S_api_Poster (@appL S_api_Poster [] a) (@I.nat .i64 y1.1.1) ((@rdL S_api_Poster Z_S_api_Poster (@appL S_api_Poster [] a) (@I.nat .i64 y1.1.1)).1, (y2.1.1, (@rdL S_api_Poster Z_S_api_Poster (@appL S_api_Poster [] a) (@I.nat .i64 y1.1.1)).2.2))) (@I.nat .i64 y1.1.1) ((@rdL S_api_Poster Z_S_api_Poster (@setL S_api_Poster (@appL S_api_Poster [] a) (@I.nat .i64 y1.1.1) ((@rdL S_api_Poster Z_S_api_Poster (@appL S_api_Poster [] a) (@I.nat .i64 y1.1.1)).1, (y2.1.1, (@rdL S_api_Poster Z_S_api_Poster (@appL S_api_Poster [] a) (@I.nat .i64 y1.1.1)).2.2))) (@I.nat .i64 y1.1.1)).1, ((@rdL S_api_Poster Z_S_api_Poster (@setL S_api_Poster (@appL S_api_Poster [] a) (@I.nat .i64 y1.1.1) ((@rdL S_api_Poster Z_S_api_Poster (@appL S_api_Poster [] a) (@I.nat .i64 y1.1.1)).1, (y2.1.1, (@rdL S_api_Poster Z_S_api_Poster (@appL S_api_Poster [] a) (@I.nat .i64 y1.1.1)).2.2))) (@I.nat .i64 y1.1.1)).2.1, ((@rdL S_api_Poster Z_S_api_Poster (@setL S_api_Poster (@appL S_api_Poster [] a) (@I.nat .i64 y1.1.1) ((@rdL S_api_Poster Z_S_api_Poster (@appL S_api_Poster [] a) (@I.nat .i64 y1.1.1)).1, (y2.1.1, (@rdL S_api_Poster Z_S_api_Poster (@appL S_api_Poster [] a) (@I.nat .i64 y1.1.1)).2.2))) (@I.nat .i64 y1.1.1)).2.2.1, ((@rdL S_api_Poster Z_S_api_Poster (@setL S_api_Poster (@appL S_api_Poster [] a) (@I.nat .i64 y1.1.1) ((@rdL S_api_Poster Z_S_api_Poster (@appL S_api_Poster [] a) (@I.nat .i64 y1.1.1)).1, (y2.1.1, (@rdL S_api_Poster Z_S_api_Poster (@appL S_api_Poster [] a) (@I.nat .i64 y1.1.1)).2.2))) (@I.nat .i64 y1.1.1)).2.2.2.1, (y3.1.1, (@rdL S_api_Poster Z_S_api_Poster (@setL S_api_Poster (@appL S_api_Poster [] a) (@I.nat .i64 y1.1.1) ((@rdL S_api_Poster Z_S_api_Poster (@appL S_api_Poster [] a) (@I.nat .i64 y1.1.1)).1, (y2.1.1, (@rdL S_api_Poster Z_S_api_Poster (@appL S_api_Poster [] a) (@I.nat .i64 y1.1.1)).2.2))) (@I.nat .i64 y1.1.1)).2.2.2.2.2)))))) (@I.nat .i64 y1.1.1)).2.2.2.2.1, ((I.of .u64 0), (@rdL S_api_Poster Z_S_api_Poster (@setL S_api_Poster (@setL S_api_Poster (@appL S_api_Poster [] a) (@I.nat .i64 y1.1.1) ((@rdL S_api_Poster Z_S_api_Poster (@appL S_api_Poster [] a) (@I.nat .i64 y1.1.1)).1, (y2.1.1, (@rdL S_api_Poster Z_S_api_Poster (@appL S_api_Poster [] a) (@I.nat .i64 y1.1.1)).2.2))) (@I.nat .i64 y1.1.1) ((@rdL S_api_Poster Z_S_api_Poster (@setL S_api_Poster (@appL S_api_Poster [] a) (@I.nat .i64 y1.1.1) ((@rdL S_api_Poster Z_S_api_Poster (@appL S_api_Poster [] a) (@I.nat .i64 y1.1.1)).1, (y2.1.1, (@rdL S_api_Poster Z_S_api_Poster (@appL S_api_Poster [] a) (@I.nat .i64 y1.1.1)).2.2))) (@I.nat .i64 y1.1.1)).1, ((@rdL S_api_Poster Z_S_api_Poster (@setL S_api_Poster (@appL S_api_Poster [] a) (@I.nat .i64 y1.1.1) ((@rdL S_api_Poster Z_S_api_Poster (@appL S_api_Poster [] a) (@I.nat .i64 y1.1.1)).1, (y2.1.1, (@rdL S_api_Poster Z_S_api_Poster (@appL S_api_Poster [] a) (@I.nat .i64 y1.1.1)).2.2))) (@I.nat .i64 y1.1.1)).2.1, ((@rdL S_api_Poster Z_S_api_Poster (@setL S_api_Poster (@appL S_api_Poster [] a) (@I.nat .i64 y1.1.1) ((@rdL S_api_Poster Z_S_api_Poster (@appL S_api_Poster [] a) (@I.nat .i64 y1.1.1)).1, (y2.1.1, (@rdL S_api_Poster Z_S_api_Poster (@appL S_api_Poster [] a) (@I.nat .i64 y1.1.1)).2.2))) (@I.nat .i64 y1.1.1)).2.2.1, ((@rdL S_api_Poster Z_S_api_Poster (@setL S_api_Poster (@appL S_api_Poster [] a) (@I.nat .i64 y1.1.1) ((@rdL S_api_Poster Z_S_api_Poster (@appL S_api_Poster [] a) (@I.nat .i64 y1.1.1)).1, (y2.1.1, (@rdL S_api_Poster Z_S_api_Poster (@appL S_api_Poster [] a) (@I.nat .i64 y1.1.1)).2.2))) (@I.nat .i64 y1.1.1)).2.2.2.1, (y3.1.1, (@rdL S_api_Poster Z_S_api_Poster (@setL S_api_Poster (@appL S_api_Poster [] a) (@I.nat .i64 y1.1.1) ((@rdL S_api_Poster Z_S_api_Poster (@appL S_api_Poster [] a) (@I.nat .i64 y1.1.1)).1, (y2.1.1, (@rdL S_api_Poster Z_S_api_Poster (@appL S_api_Poster [] a) (@I.nat .i64 y1.1.1)).2.2))) (@I.nat .i64 y1.1.1)).2.2.2.2.2)))))) (@I.nat .i64 y1.1.1)).2.2.2.2.2.2))))))), ((I.of .i64 0), ())), ()))
        (some (((@setL S_api_Poster (@setL S_api_Poster (@appL S_api_Poster [] a) (@I.nat .i64 y1.1.1) ((@rdL S_api_Poster Z_S_api_Poster (@appL S_api_Poster [] a) (@I.nat .i64 y1.1.1)).1, (y2.1.1, (@rdL S_api_Poster Z_S_api_Poster (@appL S_api_Poster [] a) (@I.nat .i64 y1.1.1)).2.2))) (@I.nat .i64 y1.1.1) ((@rdL S_api_Poster Z_S_api_Poster (@setL S_api_Poster (@appL S_api_Poster [] a) (@I.nat .i64 y1.1.1) ((@rdL S_api_Poster Z_S_api_Poster (@appL S_api_Poster [] a) (@I.nat .i64 y1.1.1)).1, (y2.1.1, (@rdL S_api_Poster Z_S_api_Poster (@appL S_api_Poster [] a) (@I.nat .i64 y1.1.1)).2.2))) (@I.nat .i64 y1.1.1)).1, ((@rdL S_api_Poster Z_S_api_Poster (@setL S_api_Poster (@appL S_api_Poster [] a) (@I.nat .i64 y1.1.1) ((@rdL S_api_Poster Z_S_api_Poster (@appL S_api_Poster [] a) (@I.nat .i64 y1.1.1)).1, (y2.1.1, (@rdL S_api_Poster Z_S_api_Poster (@appL S_api_Poster [] a) (@I.nat .i64 y1.1.1)).2.2))) (@I.nat .i64 y1.1.1)).2.1, ((@rdL S_api_Poster Z_S_api_Poster (@setL S_api_Poster (@appL S_api_Poster [] a) (@I.nat .i64 y1.1.1) ((@rdL S_api_Poster Z_S_api_Poster (@appL S_api_Poster [] a) (@I.nat .i64 y1.1.1)).1, (y2.1.1, (@rdL S_api_Poster Z_S_api_Poster (@appL S_api_Poster [] a) (@I.nat .i64 y1.1.1)).2.2))) (@I.nat .i64 y1.1.1)).2.2.1, ((@rdL S_api_Poster Z_S_api_Poster (@setL S_api_Poster (@appL S_api_Poster [] a) (@I.nat .i64 y1.1.1) ((@rdL S_api_Poster Z_S_api_Poster (@appL S_api_Poster [] a) (@I.nat .i64 y1.1.1)).1, (y2.1.1, (@rdL S_api_Poster Z_S_api_Poster (@appL S_api_Poster [] a) (@I.nat .i64 y1.1.1)).2.2))) (@I.nat .i64 y1.1.1)).2.2.2.1, (y3.1.1, (@rdL S_api_Poster Z_S_api_Poster (@setL S_api_Poster (@appL S_api_Poster [] a) (@I.nat .i64 y1.1.1) ((@rdL S_api_Poster Z_S_api_Poster (@appL S_api_Poster [] a) (@I.nat .i64 y1.1.1)).1, (y2.1.1, (@rdL S_api_Poster Z_S_api_Poster (@appL S_api_Poster [] a) (@I.nat .i64 y1.1.1)).2.2))) (@I.nat .i64 y1.1.1)).2.2.2.2.2)))))), ((I.of .i64 0), ())), ())))))
     (none))
    (none)))
noncomputable def pontageref16_Accrue (K : Nat) (x : (⟨[.pl (.sl (.cons (.int .u64) (.cons (.arr 4 (.int .u64)) (.cons (.arr 4 (.int .u64)) (.cons (.arr 4 (.int .u64)) (.cons (.arr 4 (.int .u64)) (.cons (.int .u64) .nil))))))), .pl (.int .u64), .pl (.arr 4 (.int .u64)), .pl (.arr 4 (.int .u64)), .pl (.int .u64)], []⟩ : Tm).D) : Option (⟨[.pl (.sl (.cons (.int .u64) (.cons (.arr 4 (.int .u64)) (.cons (.arr 4 (.int .u64)) (.cons (.arr 4 (.int .u64)) (.cons (.arr 4 (.int .u64)) (.cons (.int .u64) .nil))))))), .pl (.int .i64)], []⟩ : Tm).D :=
 let a : (List S_api_Poster) := x.1.1
 let b : (I .u64) := x.1.2.1
 let c : U := x.1.2.2.1
 let d : U := x.1.2.2.2.1
 let e : (I .u64) := x.1.2.2.2.2.1
 jn (fun (x0 : (((List S_api_Poster) × ((I .u64) × ((I .u64) × Unit))) × (U × (U × Unit)))) =>
   optF (none) (pontageref16_Find K ((x0.1.1, (x0.1.2.1, ())), ())) fun y1 =>
   brn (@I.ltb .i64 y1.1.1 (I.of .i64 0))
    (some (([], ((I.of .i64 8), ())), ()))
    (brn (fitsLen (@lenL S_api_Poster (@appL S_api_Poster [] x0.1.1)))
     (brn (@inB .i64 y1.1.1 (@lenL S_api_Poster (@appL S_api_Poster [] x0.1.1)))
      (optF (none) (pontageref1_FromUint256 K (((@rdL S_api_Poster Z_S_api_Poster (@appL S_api_Poster [] x0.1.1) (@I.nat .i64 y1.1.1)).2.1, ()), ())) fun y2 =>
      optF (none) (pontageref1_FromUint256 K ((x0.2.1, ()), ())) fun y3 =>
      optF (none) (pontageref1_FromUint256 K ((x0.2.2.1, ()), ())) fun y4 =>
      optF (none) (pontageref1_Add K ((y3.1.1, (y4.1.1, ())), ())) fun y5 =>
      optF (none) (pontageref1_Add K ((y2.1.1, (y5.1.1, ())), ())) fun y6 =>
      optF (none) (pontageref1_FromUint256 K (((@rdL S_api_Poster Z_S_api_Poster (@appL S_api_Poster [] x0.1.1) (@I.nat .i64 y1.1.1)).2.2.1, ()), ())) fun y7 =>
      optF (none) (pontageref1_FromUint256 K ((x0.2.1, ()), ())) fun y8 =>
      optF (none) (pontageref1_Add K ((y7.1.1, (y8.1.1, ())), ())) fun y9 =>
      optF (none) (pontageref1_FromUint256 K (((@rdL S_api_Poster Z_S_api_Poster (@appL S_api_Poster [] x0.1.1) (@I.nat .i64 y1.1.1)).2.2.2.1, ()), ())) fun y10 =>
      optF (none) (pontageref1_FromUint256 K ((x0.2.2.1, ()), ())) fun y11 =>
      optF (none) (pontageref1_Add K ((y10.1.1, (y11.1.1, ())), ())) fun y12 =>
      optF (none) (pontageref1_Fits K ((y6.1.1, ()), ())) fun y13 =>
      brn (bnot y13.1.1)
       (some (([], ((I.of .i64 4), ())), ()))
       (optF (none) (pontageref1_Fits K ((y9.1.1, ()), ())) fun y14 =>
       brn (bnot y14.1.1)
        (some (([], ((I.of .i64 4), ())), ()))
        (optF (none) (pontageref1_Fits K ((y12.1.1, ()), ())) fun y15 =>
        brn (bnot y15.1.1)
         (some (([], ((I.of .i64 4), ())), ()))
         (optF (none) (pontageref1_IsZero K (((@rdL S_api_Poster Z_S_api_Poster (@appL S_api_Poster [] x0.1.1) (@I.nat .i64 y1.1.1)).2.1, ()), ())) fun y16 =>
         brn y16.1.1
          (brn (@I.ltb .i64 (I.of .i64 0) (I.ofNat .i64 (@lenL (I .i64) y6.1.1)))
           (optF (none) (pontageref1_ToUint256 K ((y6.1.1, ()), ())) fun y17 =>
           optF (none) (pontageref1_ToUint256 K ((y9.1.1, ()), ())) fun y18 =>
           optF (none) (pontageref1_ToUint256 K ((y12.1.1, ()), ())) fun y19 =>
           some (((@setL S_api_Poster (@setL S_api_Poster (@setL S_api_Poster (@setL S_api_Poster (@appL S_api_Poster [] x0.1.1) (@I.nat .i64 y1.1.1) ((@rdL S_api_Poster Z_S_api_Poster (@appL S_api_Poster [] x0.1.1) (@I.nat .i64 y1.1.1)).1, ((@rdL S_api_Poster Z_S_api_Poster (@appL S_api_Poster [] x0.1.1) (@I.nat .i64 y1.1.1)).2.1, ((@rdL S_api_Poster Z_S_api_Poster (@appL S_api_Poster [] x0.1.1) (@I.nat .i64 y1.1.1)).2.2.1, ((@rdL S_api_Poster Z_S_api_Poster (@appL S_api_Poster [] x0.1.1) (@I.nat .i64 y1.1.1)).2.2.2.1, ((@rdL S_api_Poster Z_S_api_Poster (@appL S_api_Poster [] x0.1.1) (@I.nat .i64 y1.1.1)).2.2.2.2.1, (x0.1.2.2.1, (@rdL S_api_Poster Z_S_api_Poster (@appL S_api_Poster [] x0.1.1) (@I.nat .i64 y1.1.1)).2.2.2.2.2.2))))))) (@I.nat .i64 y1.1.1) ((@rdL S_api_Poster Z_S_api_Poster (@setL S_api_Poster (@appL S_api_Poster [] x0.1.1) (@I.nat .i64 y1.1.1) ((@rdL S_api_Poster Z_S_api_Poster (@appL S_api_Poster [] x0.1.1) (@I.nat .i64 y1.1.1)).1, ((@rdL S_api_Poster Z_S_api_Poster (@appL S_api_Poster [] x0.1.1) (@I.nat .i64 y1.1.1)).2.1, ((@rdL S_api_Poster Z_S_api_Poster (@appL S_api_Poster [] x0.1.1) (@I.nat .i64 y1.1.1)).2.2.1, ((@rdL S_api_Poster Z_S_api_Poster (@appL S_api_Poster [] x0.1.1) (@I.nat .i64 y1.1.1)).2.2.2.1, ((@rdL S_api_Poster Z_S_api_Poster (@appL S_api_Poster [] x0.1.1) (@I.nat .i64 y1.1.1)).2.2.2.2.1, (x0.1.2.2.1, (@rdL S_api_Poster Z_S_api_Poster (@appL S_api_Poster [] x0.1.1) (@I.nat .i64 y1.1.1)).2.2.2.2.2.2))))))) (@I.nat .i64 y1.1.1)).1, (y17.1.1, (@rdL S_api_Poster Z_S_api_Poster (@setL S_api_Poster (@appL S_api_Poster [] x0.1.1) (@I.nat .i64 y1.1.1) ((@rdL S_api_Poster Z_S_api_Poster (@appL S_api_Poster [] x0.1.1) (@I.nat .i64 y1.1.1)).1, ((@rdL S_api_Poster Z_S_api_Poster (@appL S_api_Poster [] x0.1.1) (@I.nat .i64 y1.1.1)).2.1, ((@rdL S_api_Poster Z_S_api_Poster (@appL S_api_Poster [] x0.1.1) (@I.nat .i64 y1.1.1)).2.2.1, ((@rdL S_api_Poster Z_S_api_Poster (@appL S_api_Poster [] x0.1.1) (@I.nat .i64 y1.1.1)).2.2.2.1, ((@rdL S_api_Poster Z_S_api_Poster (@appL S_api_Poster [] x0.1.1) (@I.nat .i64 y1.1.1)).2.2.2.2.1, (x0.1.2.2.1, (@rdL S_api_Poster Z_S_api_Poster (@appL S_api_Poster [] x0.1.1) (@I.nat .i64 y1.1.1)).2.2.2.2.2.2))))))) (@I.nat .i64 y1.1.1)).2.2))) (@I.nat .i64 y1.1.1) ((@rdL S_api_Poster Z_S_api_Poster (@setL S_api_Poster (@setL S_api_Poster (@appL S_api_Poster [] x0.1.1) (@I.nat .i64 y1.1.1) ((@rdL S_api_Poster Z_S_api_Poster (@appL S_api_Poster [] x0.1.1) (@I.nat .i64 y1.1.1)).1, ((@rdL S_api_Poster Z_S_api_Poster (@appL S_api_Poster [] x0.1.1) (@I.nat .i64 y1.1.1)).2.1, ((@rdL S_api_Poster Z_S_api_Poster (@appL S_api_Poster [] x0.1.1) (@I.nat .i64 y1.1.1)).2.2.1, ((@rdL S_api_Poster Z_S_api_Poster (@appL S_api_Poster [] x0.1.1) (@I.nat .i64 y1.1.1)).2.2.2.1, ((@rdL S_api_Poster Z_S_api_Poster (@appL S_api_Poster [] x0.1.1) (@I.nat .i64 y1.1.1)).2.2.2.2.1, (x0.1.2.2.1, (@rdL S_api_Poster Z_S_api_Poster (@appL S_api_Poster [] x0.1.1) (@I.nat .i64 y1.1.1)).2.2.2.2.2.2))))))) (@I.nat .i64 y1.1.1) ((@rdL S_api_Poster Z_S_api_Poster (@setL S_api_Poster (@appL S_api_Poster [] x0.1.1) (@I.nat .i64 y1.1.1) ((@rdL S_api_Poster Z_S_api_Poster (@appL S_api_Poster [] x0.1.1) (@I.nat .i64 y1.1.1)).1, ((@rdL S_api_Poster Z_S_api_Poster (@appL S_api_Poster [] x0.1.1) (@I.nat .i64 y1.1.1)).2.1, ((@rdL S_api_Poster Z_S_api_Poster (@appL S_api_Poster [] x0.1.1) (@I.nat .i64 y1.1.1)).2.2.1, ((@rdL S_api_Poster Z_S_api_Poster (@appL S_api_Poster [] x0.1.1) (@I.nat .i64 y1.1.1)).2.2.2.1, ((@rdL S_api_Poster Z_S_api_Poster (@appL S_api_Poster [] x0.1.1) (@I.nat .i64 y1.1.1)).2.2.2.2.1, (x0.1.2.2.1, (@rdL S_api_Poster Z_S_api_Poster (@appL S_api_Poster [] x0.1.1) (@I.nat .i64 y1.1.1)).2.2.2.2.2.2))))))) (@I.nat .i64 y1.1.1)).1, (y17.1.1, (@rdL S_api_Poster Z_S_api_Poster (@setL S_api_Poster (@appL S_api_Poster [] x0.1.1) (@I.nat .i64 y1.1.1) ((@rdL S_api_Poster Z_S_api_Poster (@appL S_api_Poster [] x0.1.1) (@I.nat .i64 y1.1.1)).1, ((@rdL S_api_Poster Z_S_api_Poster (@appL S_api_Poster [] x0.1.1) (@I.nat .i64 y1.1.1)).2.1, ((@rdL S_api_Poster Z_S_api_Poster (@appL S_api_Poster [] x0.1.1) (@I.nat .i64 y1.1.1)).2.2.1, ((@rdL S_api_Poster Z_S_api_Poster (@appL S_api_Poster [] x0.1.1) (@I.nat .i64 y1.1.1)).2.2.2.1, ((@rdL S_api_Poster Z_S_api_Poster (@appL S_api_Poster [] x0.1.1) (@I.nat .i64 y1.1.1)).2.2.2.2.1, (x0.1.2.2.1, (@rdL S_api_Poster Z_S_api_Poster (@appL S_api_Poster [] x0.1.1) (@I.nat .i64 y1.1.1)).2.2.2.2.2.2))))))) (@I.nat .i64 y1.1.1)).2.2))) (@I.nat .i64 y1.1.1)).1, ((@rdL S_api_Poster Z_S_api_Poster (@setL S_api_Poster (@setL S_api_Poster (@appL S_api_Poster [] x0.1.1) (@I.nat .i64 y1.1.1) ((@rdL S_api_Poster Z_S_api_Poster (@appL S_api_Poster [] x0.1.1) (@I.nat .i64 y1.1.1)).1, ((@rdL S_api_Poster Z_S_api_Poster (@appL S_api_Poster [] x0.1.1) (@I.nat .i64 y1.1.1)).2.1, ((@rdL S_api_Poster Z_S_api_Poster (@appL S_api_Poster [] x0.1.1) (@I.nat .i64 y1.1.1)).2.2.1, ((@rdL S_api_Poster Z_S_api_Poster (@appL S_api_Poster [] x0.1.1) (@I.nat .i64 y1.1.1)).2.2.2.1, ((@rdL S_api_Poster Z_S_api_Poster (@appL S_api_Poster [] x0.1.1) (@I.nat .i64 y1.1.1)).2.2.2.2.1, (x0.1.2.2.1, (@rdL S_api_Poster Z_S_api_Poster (@appL S_api_Poster [] x0.1.1) (@I.nat .i64 y1.1.1)).2.2.2.2.2.2))))))) (@I.nat .i64 y1.1.1) ((@rdL S_api_Poster Z_S_api_Poster (@setL S_api_Poster (@appL S_api_Poster [] x0.1.1) (@I.nat .i64 y1.1.1) ((@rdL S_api_Poster Z_S_api_Poster (@appL S_api_Poster [] x0.1.1) (@I.nat .i64 y1.1.1)).1, ((@rdL S_api_Poster Z_S_api_Poster (@appL S_api_Poster [] x0.1.1) (@I.nat .i64 y1.1.1)).2.1, ((@rdL S_api_Poster Z_S_api_Poster (@appL S_api_Poster [] x0.1.1) (@I.nat .i64 y1.1.1)).2.2.1, ((@rdL S_api_Poster Z_S_api_Poster (@appL S_api_Poster [] x0.1.1) (@I.nat .i64 y1.1.1)).2.2.2.1, ((@rdL S_api_Poster Z_S_api_Poster (@appL S_api_Poster [] x0.1.1) (@I.nat .i64 y1.1.1)).2.2.2.2.1, (x0.1.2.2.1, (@rdL S_api_Poster Z_S_api_Poster (@appL S_api_Poster [] x0.1.1) (@I.nat .i64 y1.1.1)).2.2.2.2.2.2))))))) (@I.nat .i64 y1.1.1)).1, (y17.1.1, (@rdL S_api_Poster Z_S_api_Poster (@setL S_api_Poster (@appL S_api_Poster [] x0.1.1) (@I.nat .i64 y1.1.1) ((@rdL S_api_Poster Z_S_api_Poster (@appL S_api_Poster [] x0.1.1) (@I.nat .i64 y1.1.1)).1, ((@rdL S_api_Poster Z_S_api_Poster (@appL S_api_Poster [] x0.1.1) (@I.nat .i64 y1.1.1)).2.1, ((@rdL S_api_Poster Z_S_api_Poster (@appL S_api_Poster [] x0.1.1) (@I.nat .i64 y1.1.1)).2.2.1, ((@rdL S_api_Poster Z_S_api_Poster (@appL S_api_Poster [] x0.1.1) (@I.nat .i64 y1.1.1)).2.2.2.1, ((@rdL S_api_Poster Z_S_api_Poster (@appL S_api_Poster [] x0.1.1) (@I.nat .i64 y1.1.1)).2.2.2.2.1, (x0.1.2.2.1, (@rdL S_api_Poster Z_S_api_Poster (@appL S_api_Poster [] x0.1.1) (@I.nat .i64 y1.1.1)).2.2.2.2.2.2))))))) (@I.nat .i64 y1.1.1)).2.2))) (@I.nat .i64 y1.1.1)).2.1, (y18.1.1, (@rdL S_api_Poster Z_S_api_Poster (@setL S_api_Poster (@setL S_api_Poster (@appL S_api_Poster [] x0.1.1) (@I.nat .i64 y1.1.1) ((@rdL S_api_Poster Z_S_api_Poster (@appL S_api_Poster [] x0.1.1) (@I.nat .i64 y1.1.1)).1, ((@rdL S_api_Poster Z_S_api_Poster (@appL S_api_Poster [] x0.1.1) (@I.nat .i64 y1.1.1)).2.1, ((@rdL S_api_Poster Z_S_api_Poster (@appL S_api_Poster [] x0.1.1) (@I.nat .i64 y1.1.1)).2.2.1, ((@rdL S_api_Poster Z_S_api_Poster (@appL S_api_Poster [] x0.1.1) (@I.nat .i64 y1.1.1)).2.2.2.1, ((@rdL S_api_Poster Z_S_api_Poster (@appL S_api_Poster [] x0.1.1) (@I.nat .i64 y1.1.1)).2.2.2.2.1, (x0.1.2.2.1, (@rdL S_api_Poster Z_S_api_Poster (@appL S_api_Poster [] x0.1.1) (@I.nat .i64 y1.1.1)).2.2.2.2.2.2))))))) (@I.nat .i64 y1.1.1) ((@rdL S_api_Poster Z_S_api_Poster (@setL S_api_Poster (@appL S_api_Poster [] x0.1.1) (@I.nat .i64 y1.1.1) ((@rdL S_api_Poster Z_S_api_Poster (@appL S_api_Poster [] x0.1.1) (@I.nat .i64 y1.1.1)).1, ((@rdL S_api_Poster Z_S_api_Poster (@appL S_api_Poster [] x0.1.1) (@I.nat .i64 y1.1.1)).2.1, ((@rdL S_api_Poster Z_S_api_Poster (@appL S_api_Poster [] x0.1.1) (@I.nat .i64 y1.1.1)).2.2.1, ((@rdL S_api_Poster Z_S_api_Poster (@appL S_api_Poster [] x0.1.1) (@I.nat .i64 y1.1.1)).2.2.2.1, ((@rdL S_api_Poster Z_S_api_Poster (@appL S_api_Poster [] x0.1.1) (@I.nat .i64 y1.1.1)).2.2.2.2.1, (x0.1.2.2.1, (@rdL S_api_Poster Z_S_api_Poster (@appL S_api_Poster [] x0.1.1) (@I.nat .i64 y1.1.1)).2.2.2.2.2.2))))))) (@I.nat .i64 y1.1.1)).1, (y17.1.1, (@rdL S_api_Poster Z_S_api_Poster (@setL S_api_Poster (@appL S_api_Poster [] x0.1.1) (@I.nat .i64 y1.1.1) ((@rdL S_api_Poster Z_S_api_Poster (@appL S_api_Poster [] x0.1.1) (@I.nat .i64 y1.1.1)).1, ((@rdL S_api_Poster Z_S_api_Poster (@appL S_api_Poster [] x0.1.1) (@I.nat .i64 y1.1.1)).2.1, ((@rdL S_api_Poster Z_S_api_Poster (@appL S_api_Poster [] x0.1.1) (@I.nat .i64 y1.1.1)).2.2.1, ((@rdL S_api_Poster Z_S_api_Poster (@appL S_api_Poster [] x0.1.1) (@I.nat .i64 y1.1.1)).2.2.2.1, ((@rdL S_api_Poster Z_S_api_Poster (@appL S_api_Poster [] x0.1.1) (@I.nat .i64 y1.1.1)).2.2.2.2.1, (x0.1.2.2.1, (@rdL S_api_Poster Z_S_api_Poster (@appL S_api_Poster [] x0.1.1) (@I.nat .i64 y1.1.1)).2.2.2.2.2.2))))))) (@I.nat .i64 y1.1.1)).2.2))) (@I.nat .i64 y1.1.1)).2.2.2)))) (@I.nat .i64 y1.1.1) ((@rdL S_api_Poster Z_S_api_Poster (@setL S_api_Poster (@setL S_api_Poster (@setL S_api_Poster (@appL S_api_Poster [] x0.1.1) (@I.nat .i64 y1.1.1) ((@rdL S_api_Poster Z_S_api_Poster (@appL S_api_Poster [] x0.1.1) (@I.nat .i64 y1.1.1)).1, ((@rdL S_api_Poster Z_S_api_Poster (@appL S_api_Poster [] x0.1.1) (@I.nat .i64 y1.1.1)).2.1, ((@rdL S_api_Poster Z_S_api_Poster (@appL S_api_Poster [] x0.1.1) (@I.nat .i64 y1.1.1)).2.2.1, ((@rdL S_api_Poster Z_S_api_Poster (@appL S_api_Poster [] x0.1.1) (@I.nat .i64 y1.1.1)).2.2.2.1, ((@rdL S_api_Poster Z_S_api_Poster (@appL S_api_Poster [] x0.1.1) (@I.nat .i64 y1.1.1)).2.2.2.2.1, (x0.1.2.2.1, (@rdL S_api_Poster Z_S_api_Poster (@appL S_api_Poster [] x0.1.1) (@I.nat .i64 y1.1.1)).2.2.2.2.2.2))))))) (@I.nat .i64 y1.1.1) ((@rdL S_api_Poster Z_S_api_Poster (@setL S_api_Poster (@appL S_api_Poster [] x0.1.1) (@I.nat .i64 y1.1.1) ((@rdL S_api_Poster Z_S_api_Poster (@appL S_api_Poster [] x0.1.1) (@I.nat .i64 y1.1.1)).1, ((@rdL S_api_Poster Z_S_api_Poster (@appL S_api_Poster [] x0.1.1) (@I.nat .i64 y1.1.1)).2.1, ((@rdL S_api_Poster Z_S_api_Poster (@appL S_api_Poster [] x0.1.1) (@I.nat .i64 y1.1.1)).2.2.1, ((@rdL S_api_Poster Z_S_api_Poster (@appL S_api_Poster [] x0.1.1) (@I.nat .i64 y1.1.1)).2.2.2.1, ((@rdL S_api_Poster Z_S_api_Poster (@appL S_api_Poster [] x0.1.1) (@I.nat .i64 y1.1.1)).2.2.2.2.1, (x0.1.2.2.1, (@rdL S_api_Poster Z_S_api_Poster (@appL S_api_Poster [] x0.1.1) (@I.nat .i64 y1.1.1)).2.2.2.2.2.2))))))) (@I.nat .i64 y1.1.1)).1, (y17.1.1, (@rdL S_api_Poster Z_S_api_Poster (@setL S_api_Poster (@appL S_api_Poster [] x0.1.1) (@I.nat .i64 y1.1.1) ((@rdL S_api_Poster Z_S_api_Poster (@appL S_api_Poster [] x0.1.1) (@I.nat .i64 y1.1.1)).1, ((@rdL S_api_Poster Z_S_api_Poster (@appL S_api_Poster [] x0.1.1) (@I.nat .i64 y1.1.1)).2.1, ((@rdL S_api_Poster Z_S_api_Poster (@appL S_api_Poster [] x0.1.1) (@I.nat .i64 y1.1.1)).2.2.1, ((@rdL S_api_Poster Z_S_api_Poster (@appL S_api_Poster [] x0.1.1) (@I.nat .i64 y1.1.1)).2.2.2.1, ((@rdL S_api_Poster Z_S_api_Poster (@appL S_api_Poster [] x0.1.1) (@I.nat .i64 y1.1.1)).2.2.2.2.1, (x0.1.2.2.1, (@rdL S_api_Poster Z_S_api_Poster (@appL S_api_Poster [] x0.1.1) (@I.nat .i64 y1.1.1)).2.2.2.2.2.2))))))) (@I.nat .i64 y1.1.1)).2.2))) (@I.nat .i64 y1.1.1) ((@rdL S_api_Poster Z_S_api_Poster (@setL S_api_Poster (@setL S_api_Poster (@appL S_api_Poster [] x0.1.1) (@I.nat .i64 y1.1.1) ((@rdL S_api_Poster Z_S_api_Poster (@appL S_api_Poster [] x0.1.1) (@I.nat .i64 y1.1.1)).1, ((@rdL S_api_Poster Z_S_api_Poster (@appL S_api_Poster [] x0.1.1) (@I.nat .i64 y1.1.1)).2.1, ((@rdL S_api_Poster Z_S_api_Poster (@appL S_api_Poster [] x0.1.1) (@I.nat .i64 y1.1.1)).2.2.1, ((@rdL S_api_Poster Z_S_api_Poster (@appL S_api_Poster [] x0.1.1) (@I.nat .i64 y1.1.1)).2.2.2.1, ((@rdL S_api_Poster Z_S_api_Poster (@appL S_api_Poster [] x0.1.1) (@I.nat .i64 y1.1.1)).2.2.2.2.1, (x0.1.2.2.1, (@rdL S_api_Poster Z_S_api_Poster (@appL S_api_Poster [] x0.1.1) (@I.nat .i64 y1.1.1)).2.2.2.2.2.2))))))) (@I.nat .i64 y1.1.1) ((@rdL S_api_Poster Z_S_api_Poster (@setL S_api_Poster (@appL S_api_Poster [] x0.1.1) (@I.nat .i64 y1.1.1) ((@rdL S_api_Poster Z_S_api_Poster (@appL S_api_Poster [] x0.1.1) (@I.nat .i64 y1.1.1)).1, ((@rdL S_api_Poster Z_S_api_Poster (@appL S_api_Poster [] x0.1.1) (@I.nat .i64 y1.1.1)).2.1, ((@rdL S_api_Poster Z_S_api_Poster (@appL S_api_Poster [] x0.1.1) (@I.nat .i64 y1.1.1)).2.2.1, ((@rdL S_api_Poster Z_S_api_Poster (@appL S_api_Poster [] x0.1.1) (@I.nat .i64 y1.1.1)).2.2.2.1, ((@rdL S_api_Poster Z_S_api_Poster (@appL S_api_Poster [] x0.1.1) (@I.nat .i64 y1.1.1)).2.2.2.2.1, (x0.1.2.2.1, (@rdL S_api_Poster Z_S_api_Poster (@appL S_api_Poster [] x0.1.1) (@I.nat .i64 y1.1.1)).2.2.2.2.2.2))))))) (@I.nat .i64 y1.1.1)).1, (y17.1.1, (@rdL S_api_Poster Z_S_api_Poster (@setL S_api_Poster (@appL S_api_Poster [] x0.1.1) (@I.nat .i64 y1.1.1) ((@rdL S_api_Poster Z_S_api_Poster (@appL S_api_Poster [] x0.1.1) (@I.nat .i64 y1.1.1)).1, ((@rdL S_api_Poster Z_S_api_Poster (@appL S_api_Poster [] x0.1.1) (@I.nat .i64 y1.1.1)).2.1, ((@rdL S_api_Poster Z_S_api_Poster (@appL S_api_Poster [] x0.1.1) (@I.nat .i64 y1.1.1)).2.2.1, ((@rdL S_api_Poster Z_S_api_Poster (@appL S_api_Poster [] x0.1.1) (@I.nat .i64 y1.1.1)).2.2.2.1, ((@rdL S_api_Poster Z_S_api_Poster (@appL S_api_Poster [] x0.1.1) (@I.nat .i64 y1.1.1)).2.2.2.2.1, (x0.1.2.2.1, (@rdL S_api_Poster Z_S_api_Poster (@appL S_api_Poster [] x0.1.1) (@I.nat .i64 y1.1.1)).2.2.2.2.2.2))))))) (@I.nat .i64 y1.1.1)).2.2))) (@I.nat .i64 y1.1.1)).1, ((@rdL S_api_Poster Z_S_api_Poster (@setL S_api_Poster (@setL S_api_Poster (@appL S_api_Poster [] x0.1.1) (@I.nat .i64 y1.1.1) ((@rdL S_api_Poster Z_S_api_Poster (@appL S_api_Poster [] x0.1.1) (@I.nat .i64 y1.1.1)).1, ((@rdL S_api_Poster Z_S_api_Poster (@appL S_api_Poster [] x0.1.1) (@I.nat .i64 y1.1.1)).2.1, ((@rdL S_api_Poster Z_S_api_Poster (@appL S_api_Poster [] x0.1.1) (@I.nat .i64 y1.1.1)).2.2.1, ((@rdL S_api_Poster Z_S_api_Poster (@appL S_api_Poster [] x0.1.1) (@I.nat .i64 y1.1.1)).2.2.2.1, ((@rdL S_api_Poster Z_S_api_Poster (@appL S_api_Poster [] x0.1.1) (@I.nat .i64 y1.1.1)).2.2.2.2.1, (x0.1.2.2.1, (@rdL S_api_Poster Z_S_api_Poster (@appL S_api_Poster [] x0.1.1) (@I.nat .i64 y1.1.1)).2.2.2.2.2.2))))))) (@I.nat .i64 y1.1.1) ((@rdL S_api_Poster Z_S_api_Poster (@setL S_api_Poster (@appL S_api_Poster [] x0.1.1) (@I.nat .i64 y1.1.1) ((@rdL S_api_Poster Z_S_api_Poster (@appL S_api_Poster [] x0.1.1) (@I.nat .i64 y1.1.1)).1, ((@rdL S_api_Poster Z_S_api_Poster (@appL S_api_Poster [] x0.1.1) (@I.nat .i64 y1.1.1)).2.1, ((@rdL S_api_Poster Z_S_api_Poster (@appL S_api_Poster [] x0.1.1) (@I.nat .i64 y1.1.1)).2.2.1, ((@rdL S_api_Poster Z_S_api_Poster (@appL S_api_Poster [] x0.1.1) (@I.nat .i64 y1.1.1)).2.2.2.1, ((@rdL S_api_Poster Z_S_api_Poster (@appL S_api_Poster [] x0.1.1) (@I.nat .i64 y1.1.1)).2.2.2.2.1, (x0.1.2.2.1, (@rdL S_api_Poster Z_S_api_Poster (@appL S_api_Poster [] x0.1.1) (@I.nat .i64 y1.1.1)).2.2.2.2.2.2))))))) (@I.nat .i64 y1.1.1)).1, (y17.1.1, (@rdL S_api_Poster Z_S_api_Poster (@setL S_api_Poster (@appL S_api_Poster [] x0.1.1) (@I.nat .i64 y1.1.1) ((@rdL S_api_Poster Z_S_api_Poster (@appL S_api_Poster [] x0.1.1) (@I.nat .i64 y1.1.1)).1, ((@rdL S_api_Poster Z_S_api_Poster (@appL S_api_Poster [] x0.1.1) (@I.nat .i64 y1.1.1)).2.1, ((@rdL S_api_Poster Z_S_api_Poster (@appL S_api_Poster [] x0.1.1) (@I.nat .i64 y1.1.1)).2.2.1, ((@rdL S_api_Poster Z_S_api_Poster (@appL S_api_Poster [] x0.1.1) (@I.nat .i64 y1.1.1)).2.2.2.1, ((@rdL S_api_Poster Z_S_api_Poster (@appL S_api_Poster [] x0.1.1) (@I.nat .i64 y1.1.1)).2.2.2.2.1, (x0.1.2.2.1, (@rdL S_api_Poster Z_S_api_Poster (@appL S_api_Poster [] x0.1.1) (@I.nat .i64 y1.1.1)).2.2.2.2.2.2))))))) (@I.nat .i64 y1.1.1)).2.2))) (@I.nat .i64 y1.1.1)).2.1, (y18.1.1, (@rdL S_api_Poster Z_S_api_Poster (@setL S_api_Poster (@setL S_api_Poster (@appL S_api_Poster [] x0.1.1) (@I.nat .i64 y1.1.1) ((@rdL S_api_Poster Z_S_api_Poster (@appL S_api_Poster [] x0.1.1) (@I.nat .i64 y1.1.1)).1, ((@rdL S_api_Poster Z_S_api_Poster (@appL S_api_Poster [] x0.1.1) (@I.nat .i64 y1.1.1)).2.1, ((@rdL S_api_Poster Z_S_api_Poster (@appL S_api_Poster [] x0.1.1) (@I.nat .i64 y1.1.1)).2.2.1, ((@rdL S_api_Poster Z_S_api_Poster (@appL S_api_Poster [] x0.1.1) (@I.nat .i64 y1.1.1)).2.2.2.1, ((@rdL S_api_Poster Z_S_api_Poster (@appL S_api_Poster [] x0.1.1) (@I.nat .i64 y1.1.1)).2.2.2.2.1, (x0.1.2.2.1, (@rdL S_api_Poster Z_S_api_Poster (@appL S_api_Poster [] x0.1.1) (@I.nat .i64 y1.1.1)).2.2.2.2.2.2))))))) (@I.nat .i64 y1.1.1) ((@rdL S_api_Poster Z_S_api_Poster (@setL S_api_Poster (@appL S_api_Poster [] x0.1.1) (@I.nat .i64 y1.1.1) ((@rdL S_api_Poster Z_S_api_Poster (@appL S_api_Poster [] x0.1.1) (@I.nat .i64 y1.1.1)).1, ((@rdL S_api_Poster Z_S_api_Poster (@appL S_api_Poster [] x0.1.1) (@I.nat .i64 y1.1.1)).2.1, ((@rdL S_api_Poster Z_S_api_Poster (@appL S_api_Poster [] x0.1.1) (@I.nat .i64 y1.1.1)).2.2.1, ((@rdL S_api_Poster Z_S_api_Poster (@appL S_api_Poster [] x0.1.1) (@I.nat .i64 y1.1.1)).2.2.2.1, ((@rdL S_api_Poster Z_S_api_Poster (@appL S_api_Poster [] x0.1.1) (@I.nat .i64 y1.1.1)).2.2.2.2.1, (x0.1.2.2.1, (@rdL S_api_Poster Z_S_api_Poster (@appL S_api_Poster [] x0.1.1) (@I.nat .i64 y1.1.1)).2.2.2.2.2.2))))))) (@I.nat .i64 y1.1.1)).1, (y17.1.1, (@rdL S_api_Poster Z_S_api_Poster (@setL S_api_Poster (@appL S_api_Poster [] x0.1.1) (@I.nat .i64 y1.1.1) ((@rdL S_api_Poster Z_S_api_Poster (@appL S_api_Poster [] x0.1.1) (@I.nat .i64 y1.1.1)).1, ((@rdL S_api_Poster Z_S_api_Poster (@appL S_api_Poster [] x0.1.1) (@I.nat .i64 y1.1.1)).2.1, ((@rdL S_api_Poster Z_S_api_Poster (@appL S_api_Poster [] x0.1.1) (@I.nat .i64 y1.1.1)).2.2.1, ((@rdL S_api_Poster Z_S_api_Poster (@appL S_api_Poster [] x0.1.1) (@I.nat .i64 y1.1.1)).2.2.2.1, ((@rdL S_api_Poster Z_S_api_Poster (@appL S_api_Poster [] x0.1.1) (@I.nat .i64 y1.1.1)).2.2.2.2.1, (x0.1.2.2.1, (@rdL S_api_Poster Z_S_api_Poster (@appL S_api_Poster [] x0.1.1) (@I.nat .i64 y1.1.1)).2.2.2.2.2.2))))))) (@I.nat .i64 y1.1.1)).2.2))) (@I.nat .i64 y1.1.1)).2.2.2)))) (@I.nat .i64 y1.1.1)).1, ((@rdL S_api_Poster Z_S_api_Poster (@setL S_api_Poster (@setL S_api_Poster (@setL S_api_Poster (@appL S_api_Poster [] x0.1.1) (@I.nat .i64 y1.1.1) ((@rdL S_api_Poster Z_S_api_Poster (@appL S_api_Poster [] x0.1.1) (@I.nat .i64 y1.1.1)).1, ((@rdL S_api_Poster Z_S_api_Poster (@appL S_api_Poster [] x0.1.1) (@I.nat .i64 y1.1.1)).2.1, ((@rdL S_api_Poster Z_S_api_Poster (@appL S_api_Poster [] x0.1.1) (@I.nat .i64 y1.1.1)).2.2.1, ((@rdL S_api_Poster Z_S_api_Poster (@appL S_api_Poster [] x0.1.1) (@I.nat .i64 y1.1.1)).2.2.2.1, ((@rdL S_api_Poster Z_S_api_Poster (@appL S_api_Poster [] x0.1.1) (@I.nat .i64 y1.1.1)).2.2.2.2.1, (x0.1.2.2.1, (@rdL S_api_Poster Z_S_api_Poster (@appL S_api_Poster [] x0.1.1) (@I.nat .i64 y1.1.1)).2.2.2.2.2.2))))))) (@I.nat .i64 y1.1.1) ((@rdL S_api_Poster Z_S_api_Poster (@setL S_api_Poster (@appL S_api_Poster [] x0.1.1) (@I.nat .i64 y1.1.1) ((@rdL S_api_Poster Z_S_api_Poster (@appL S_api_Poster [] x0.1.1) (@I.nat .i64 y1.1.1)).1, ((@rdL S_api_Poster Z_S_api_Poster (@appL S_api_Poster [] x0.1.1) (@I.nat .i64 y1.1.1)).2.1, ((@rdL S_api_Poster Z_S_api_Poster (@appL S_api_Poster [] x0.1.1) (@I.nat .i64 y1.1.1)).2.2.1, ((@rdL S_api_Poster Z_S_api_Poster (@appL S_api_Poster [] x0.1.1) (@I.nat .i64 y1.1.1)).2.2.2.1, ((@rdL S_api_Poster Z_S_api_Poster (@appL S_api_Poster [] x0.1.1) (@I.nat .i64 y1.1.1)).2.2.2.2.1, (x0.1.2.2.1, (@rdL S_api_Poster Z_S_api_Poster (@appL S_api_Poster [] x0.1.1) (@I.nat .i64 y1.1.1)).2.2.2.2.2.2))))))) (@I.nat .i64 y1.1.1)).1, (y17.1.1, (@rdL S_api_Poster Z_S_api_Poster (@setL S_api_Poster (@appL S_api_Poster [] x0.1.1) (@I.nat .i64 y1.1.1) ((@rdL S_api_Poster Z_S_api_Poster (@appL S_api_Poster [] x0.1.1) (@I.nat .i64 y1.1.1)).1, ((@rdL S_api_Poster Z_S_api_Poster (@appL S_api_Poster [] x0.1.1) (@I.nat .i64 y1.1.1)).2.1, ((@rdL S_api_Poster Z_S_api_Poster (@appL S_api_Poster [] x0.1.1) (@I.nat .i64 y1.1.1)).2.2.1, ((@rdL S_api_Poster Z_S_api_Poster (@appL S_api_Poster [] x0.1.1) (@I.nat .i64 y1.1.1)).2.2.2.1, ((@rdL S_api_Poster Z_S_api_Poster (@appL S_api_Poster [] x0.1.1) (@I.nat .i64 y1.1.1)).2.2.2.2.1, (x0.1.2.2.1, (@rdL S_api_Poster Z_S_api_Poster (@appL S_api_Poster [] x0.1.1) (@I.nat .i64 y1.1.1)).2.2.2.2.2.2))))))) (@I.nat .i64 y1.1.1)).2.2))) (@I.nat .i64 y1.1.1) ((@rdL S_api_Poster Z_S_api_Poster (@setL S_api_Poster (@setL S_api_Poster (@appL S_api_Poster [] x0.1.1) (@I.nat .i64 y1.1.1) ((@rdL S_api_Poster Z_S_api_Poster (@appL S_api_Poster [] x0.1.1) (@I.nat .i64 y1.1.1)).1, ((@rdL S_api_Poster Z_S_api_Poster (@appL S_api_Poster [] x0.1.1) (@I.nat .i64 y1.1.1)).2.1, ((@rdL S_api_Poster Z_S_api_Poster (@appL S_api_Poster [] x0.1.1) (@I.nat .i64 y1.1.1)).2.2.1, ((@rdL S_api_Poster Z_S_api_Poster (@appL S_api_Poster [] x0.1.1) (@I.nat .i64 y1.1.1)).2.2.2.1, ((@rdL S_api_Poster Z_S_api_Poster (@appL S_api_Poster [] x0.1.1) (@I.nat .i64 y1.1.1)).2.2.2.2.1, (x0.1.2.2.1, (@rdL S_api_Poster Z_S_api_Poster (@appL S_api_Poster [] x0.1.1) (@I.nat .i64 y1.1.1)).2.2.2.2.2.2))))))) (@I.nat .i64 y1.1.1) ((@rdL S_api_Poster Z_S_api_Poster (@setL S_api_Poster (@appL S_api_Poster [] x0.1.1) (@I.nat .i64 y1.1.1) ((@rdL S_api_Poster Z_S_api_Poster (@appL S_api_Poster [] x0.1.1) (@I.nat .i64 y1.1.1)).1, ((@rdL S_api_Poster Z_S_api_Poster (@appL S_api_Poster [] x0.1.1) (@I.nat .i64 y1.1.1)).2.1, ((@rdL S_api_Poster Z_S_api_Poster (@appL S_api_Poster [] x0.1.1) (@I.nat .i64 y1.1.1)).2.2.1, ((@rdL S_api_Poster Z_S_api_Poster (@appL S_api_Poster [] x0.1.1) (@I.nat .i64 y1.1.1)).2.2.2.1, ((@rdL S_api_Poster Z_S_api_Poster (@appL S_api_Poster [] x0.1.1) (@I.nat .i64 y1.1.1)).2.2.2.2.1, (x0.1.2.2.1, (@rdL S_api_Poster Z_S_api_Poster (@appL S_api_Poster [] x0.1.1) (@I.nat .i64 y1.1.1)).2.2.2.2.2.2))))))) (@I.nat .i64 y1.1.1)).1, (y17.1.1, (@rdL S_api_Poster Z_S_api_Poster (@setL S_api_Poster (@appL S_api_Poster [] x0.1.1) (@I.nat .i64 y1.1.1) ((@rdL S_api_Poster Z_S_api_Poster (@appL S_api_Poster [] x0.1.1) (@I.nat .i64 y1.1.1)).1, ((@rdL S_api_Poster Z_S_api_Poster (@appL S_api_Poster [] x0.1.1) (@I.nat .i64 y1.1.1)).2.1, ((@rdL S_api_Poster Z_S_api_Poster (@appL S_api_Poster [] x0.1.1) (@I.nat .i64 y1.1.1)).2.2.1, ((@rdL S_api_Poster Z_S_api_Poster (@appL S_api_Poster [] x0.1.1) (@I.nat .i64 y1.1.1)).2.2.2.1, ((@rdL S_api_Poster Z_S_api_Poster (@appL S_api_Poster [] x0.1.1) (@I.nat .i64 y1.1.1)).2.2.2.2.1, (x0.1.2.2.1, (@rdL S_api_Poster Z_S_api_Poster (@appL S_api_Poster [] x0.1.1) (@I.nat .i64 y1.1.1)).2.2.2.2.2.2))))))) (@I.nat .i64 y1.1.1)).2.2))) (@I.nat .i64 y1.1.1)).1, ((@rdL S_api_Poster Z_S_api_Poster (@setL S_api_Poster (@setL S_api_Poster (@appL S_api_Poster [] x0.1.1) (@I.nat .i64 y1.1.1) ((@rdL S_api_Poster Z_S_api_Poster (@appL S_api_Poster [] x0.1.1) (@I.nat .i64 y1.1.1)).1, ((@rdL S_api_Poster Z_S_api_Poster (@appL S_api_Poster [] x0.1.1) (@I.nat .i64 y1.1.1)).2.1, ((@rdL S_api_Poster Z_S_api_Poster (@appL S_api_Poster [] x0.1.1) (@I.nat .i64 y1.1.1)).2.2.1, ((@rdL S_api_Poster Z_S_api_Poster (@appL S_api_Poster [] x0.1.1) (@I.nat .i64 y1.1.1)).2.2.2.1, ((@rdL S_api_Poster Z_S_api_Poster (@appL S_api_Poster [] x0.1.1) (@I.nat .i64 y1.1.1)).2.2.2.2.1, (x0.1.2.2.1, (@rdL S_api_Poster Z_S_api_Poster (@appL S_api_Poster [] x0.1.1) (@I.nat .i64 y1.1.1)).2.2.2.2.2.2))))))) (@I.nat .i64 y1.1.1) ((@rdL S_api_Poster Z_S_api_Poster (@setL S_api_Poster (@appL S_api_Poster [] x0.1.1) (@I.nat .i64 y1.1.1) ((@rdL S_api_Poster Z_S_api_Poster (@appL S_api_Poster [] x0.1.1) (@I.nat .i64 y1.1.1)).1, ((@rdL S_api_Poster Z_S_api_Poster (@appL S_api_Poster [] x0.1.1) (@I.nat .i64 y1.1.1)).2.1, ((@rdL S_api_Poster Z_S_api_Poster (@appL S_api_Poster [] x0.1.1) (@I.nat .i64 y1.1.1)).2.2.1, ((@rdL S_api_Poster Z_S_api_Poster (@appL S_api_Poster [] x0.1.1) (@I.nat .i64 y1.1.1)).2.2.2.1, ((@rdL S_api_Poster Z_S_api_Poster (@appL S_api_Poster [] x0.1.1) (@I.nat .i64 y1.1.1)).2.2.2.2.1, (x0.1.2.2.1, (@rdL S_api_Poster Z_S_api_Poster (@appL S_api_Poster [] x0.1.1) (@I.nat .i64 y1.1.1)).2.2.2.2.2.2))))))) (@I.nat .i64 y1.1.1)).1, (y17.1.1, (@rdL S_api_Poster Z_S_api_Poster (@setL S_api_Poster (@appL S_api_Poster [] x0.1.1) (@I.nat .i64 y1.1.1) ((@rdL S_api_Poster Z_S_api_Poster (@appL S_api_Poster [] x0.1.1) (@I.nat .i64 y1.1.1)).1, ((@rdL S_api_Poster Z_S_api_Poster (@appL S_api_Poster [] x0.1.1) (@I.nat .i64 y1.1.1)).2.1, ((@rdL S_api_Poster Z_S_api_Poster (@appL S_api_Poster [] x0.1.1) (@I.nat .i64 y1.1.1)).2.2.1, ((@rdL S_api_Poster Z_S_api_Poster (@appL S_api_Poster [] x0.1.1) (@I.nat .i64 y1.1.1)).2.2.2.1, ((@rdL S_api_Poster Z_S_api_Poster (@appL S_api_Poster [] x0.1.1) (@I.nat .i64 y1.1.1)).2.2.2.2.1, (x0.1.2.2.1, (@rdL S_api_Poster Z_S_api_Poster (@appL S_api_Poster [] x0.1.1) (@I.nat .i64 y1.1.1)).2.2.2.2.2.2))))))) (@I.nat .i64 y1.1.1)).2.2))) (@I.nat .i64 y1.1.1)).2.1, (y18.1.1, (@rdL S_api_Poster Z_S_api_Poster (@setL S_api_Poster (@setL S_api_Poster (@appL S_api_Poster [] x0.1.1) (@I.nat .i64 y1.1.1) ((@rdL S_api_Poster Z_S_api_Poster (@appL S_api_Poster [] x0.1.1) (@I.nat .i64 y1.1.1)).1, ((@rdL S_api_Poster Z_S_api_Poster (@appL S_api_Poster [] x0.1.1) (@I.nat .i64 y1.1.1)).2.1, ((@rdL S_api_Poster Z_S_api_Poster (@appL S_api_Poster [] x0.1.1) (@I.nat .i64 y1.1.1)).2.2.1, ((@rdL S_api_Poster Z_S_api_Poster (@appL S_api_Poster [] x0.1.1) (@I.nat .i64 y1.1.1)).2.2.2.1, ((@rdL S_api_Poster Z_S_api_Poster (@appL S_api_Poster [] x0.1.1) (@I.nat .i64 y1.1.1)).2.2.2.2.1, (x0.1.2.2.1, (@rdL S_api_Poster Z_S_api_Poster (@appL S_api_Poster [] x0.1.1) (@I.nat .i64 y1.1.1)).2.2.2.2.2.2))))))) (@I.nat .i64 y1.1.1) ((@rdL S_api_Poster Z_S_api_Poster (@setL S_api_Poster (@appL S_api_Poster [] x0.1.1) (@I.nat .i64 y1.1.1) ((@rdL S_api_Poster Z_S_api_Poster (@appL S_api_Poster [] x0.1.1) (@I.nat .i64 y1.1.1)).1, ((@rdL S_api_Poster Z_S_api_Poster (@appL S_api_Poster [] x0.1.1) (@I.nat .i64 y1.1.1)).2.1, ((@rdL S_api_Poster Z_S_api_Poster (@appL S_api_Poster [] x0.1.1) (@I.nat .i64 y1.1.1)).2.2.1, ((@rdL S_api_Poster Z_S_api_Poster (@appL S_api_Poster [] x0.1.1) (@I.nat .i64 y1.1.1)).2.2.2.1, ((@rdL S_api_Poster Z_S_api_Poster (@appL S_api_Poster [] x0.1.1) (@I.nat .i64 y1.1.1)).2.2.2.2.1, (x0.1.2.2.1, (@rdL S_api_Poster Z_S_api_Poster (@appL S_api_Poster [] x0.1.1) (@I.nat .i64 y1.1.1)).2.2.2.2.2.2))))))) (@I.nat .i64 y1.1.1)).1, (y17.1.1, (@rdL S_api_Poster Z_S_api_Poster (@setL S_api_Poster (@appL S_api_Poster [] x0.1.1) (@I.nat .i64 y1.1.1) ((@rdL S_api_Poster Z_S_api_Poster (@appL S_api_Poster [] x0.1.1) (@I.nat .i64 y1.1.1)).1, ((@rdL S_api_Poster Z_S_api_Poster (@appL S_api_Poster [] x0.1.1) (@I.nat .i64 y1.1.1)).2.1, ((@rdL S_api_Poster Z_S_api_Poster (@appL S_api_Poster [] x0.1.1) (@I.nat .i64 y1.1.1)).2.2.1, ((@rdL S_api_Poster Z_S_api_Poster (@appL S_api_Poster [] x0.1.1) (@I.nat .i64 y1.1.1)).2.2.2.1, ((@rdL S_api_Poster Z_S_api_Poster (@appL S_api_Poster [] x0.1.1) (@I.nat .i64 y1.1.1)).2.2.2.2.1, (x0.1.2.2.1, (@rdL S_api_Poster Z_S_api_Poster (@appL S_api_Poster [] x0.1.1) (@I.nat .i64 y1.1.1)).2.2.2.2.2.2))))))) (@I.nat .i64 y1.1.1)).2.2))) (@I.nat .i64 y1.1.1)).2.2.2)))) (@I.nat .i64 y1.1.1)).2.1, ((@rdL S_api_Poster Z_S_api_Poster (@setL S_api_Poster (@setL S_api_Poster (@setL S_api_Poster (@appL S_api_Poster [] x0.1.1) (@I.nat .i64 y1.1.1) ((@rdL S_api_Poster Z_S_api_Poster (@appL S_api_Poster [] x0.1.1) (@I.nat .i64 y1.1.1)).1, ((@rdL S_api_Poster Z_S_api_Poster (@appL S_api_Poster [] x0.1.1) (@I.nat .i64 y1.1.1)).2.1, ((@rdL S_api_Poster Z_S_api_Poster (@appL S_api_Poster [] x0.1.1) (@I.nat .i64 y1.1.1)).2.2.1, ((@rdL S_api_Poster Z_S_api_Poster (@appL S_api_Poster [] x0.1.1) (@I.nat .i64 y1.1.1)).2.2.2.1, ((@rdL S_api_Poster Z_S_api_Poster (@appL S_api_Poster [] x0.1.1) (@I.nat .i64 y1.1.1)).2.2.2.2.1, (x0.1.2.2.1, (@rdL S_api_Poster Z_S_api_Poster (@appL S_api_Poster [] x0.1.1) (@I.nat .i64 y1.1.1)).2.2.2.2.2.2))))))) (@I.nat .i64 y1.1.1) ((@rdL S_api_Poster Z_S_api_Poster (@setL S_api_Poster (@appL S_api_Poster [] x0.1.1) (@I.nat .i64 y1.1.1) ((@rdL S_api_Poster Z_S_api_Poster (@appL S_api_Poster [] x0.1.1) (@I.nat .i64 y1.1.1)).1, ((@rdL S_api_Poster Z_S_api_Poster (@appL S_api_Poster [] x0.1.1) (@I.nat .i64 y1.1.1)).2.1, ((@rdL S_api_Poster Z_S_api_Poster (@appL S_api_Poster [] x0.1.1) (@I.nat .i64 y1.1.1)).2.2.1, ((@rdL S_api_Poster Z_S_api_Poster (@appL S_api_Poster [] x0.1.1) (@I.nat .i64 y1.1.1)).2.2.2.1, ((@rdL S_api_Poster Z_S_api_Poster (@appL S_api_Poster [] x0.1.1) (@I.nat .i64 y1.1.1)).2.2.2.2.1, (x0.1.2.2.1, (@rdL S_api_Poster Z_S_api_Poster (@appL S_api_Poster [] x0.1.1) (@I.nat .i64 y1.1.1)).2.2.2.2.2.2))))))) (@I.nat .i64 y1.1.1)).1, (y17.1.1, (@rdL S_api_Poster Z_S_api_Poster (@setL S_api_Poster (@appL S_api_Poster [] x0.1.1) (@I.nat .i64 y1.1.1) ((@rdL S_api_Poster Z_S_api_Poster (@appL S_api_Poster [] x0.1.1) (@I.nat .i64 y1.1.1)).1, ((@rdL S_api_Poster Z_S_api_Poster (@appL S_api_Poster [] x0.1.1) (@I.nat .i64 y1.1.1)).2.1, ((@rdL S_api_Poster Z_S_api_Poster (@appL S_api_Poster [] x0.1.1) (@I.nat .i64 y1.1.1)).2.2.1, ((@rdL S_api_Poster Z_S_api_Poster (@appL S_api_Poster [] x0.1.1) (@I.nat .i64 y1.1.1)).2.2.2.1, ((@rdL S_api_Poster Z_S_api_Poster (@appL S_api_Poster [] x0.1.1) (@I.nat .i64 y1.1.1)).2.2.2.2.1, (x0.1.2.2.1, (@rdL S_api_Poster Z_S_api_Poster (@appL S_api_Poster [] x0.1.1) (@I.nat .i64 y1.1.1)).2.2.2.2.2.2))))))) (@I.nat .i64 y1.1.1)).2.2))) (@I.nat .i64 y1.1.1) ((@rdL S_api_Poster Z_S_api_Poster (@setL S_api_Poster (@setL S_api_Poster (@appL S_api_Poster [] x0.1.1) (@I.nat .i64 y1.1.1) ((@rdL S_api_Poster Z_S_api_Poster (@appL S_api_Poster [] x0.1.1) (@I.nat .i64 y1.1.1)).1, ((@rdL S_api_Poster Z_S_api_Poster (@appL S_api_Poster [] x0.1.1) (@I.nat .i64 y1.1.1)).2.1, ((@rdL S_api_Poster Z_S_api_Poster (@appL S_api_Poster [] x0.1.1) (@I.nat .i64 y1.1.1)).2.2.1, ((@rdL S_api_Poster Z_S_api_Poster (@appL S_api_Poster [] x0.1.1) (@I.nat .i64 y1.1.1)).2.2.2.1, ((@rdL S_api_Poster Z_S_api_Poster (@appL S_api_Poster [] x0.1.1) (@I.nat .i64 y1.1.1)).2.2.2.2.1, (x0.1.2.2.1, (@rdL S_api_Poster Z_S_api_Poster (@appL S_api_Poster [] x0.1.1) (@I.nat .i64 y1.1.1)).2.2.2.2.2.2))))))) (@I.nat .i64 y1.1.1) ((@rdL S_api_Poster Z_S_api_Poster (@setL S_api_Poster (@appL S_api_Poster [] x0.1.1) (@I.nat .i64 y1.1.1) ((@rdL S_api_Poster Z_S_api_Poster (@appL S_api_Poster [] x0.1.1) (@I.nat .i64 y1.1.1)).1, ((@rdL S_api_Poster Z_S_api_Poster (@appL S_api_Poster [] x0.1.1) (@I.nat .i64 y1.1.1)).2.1, ((@rdL S_api_Poster Z_S_api_Poster (@appL S_api_Poster [] x0.1.1) (@I.nat .i64 y1.1.1)).2.2.1, ((@rdL S_api_Poster Z_S_api_Poster (@appL S_api_Poster [] x0.1.1) (@I.nat .i64 y1.1.1)).2.2.2.1, ((@rdL S_api_Poster Z_S_api_Poster (@appL S_api_Poster [] x0.1.1) (@I.nat .i64 y1.1.1)).2.2.2.2.1, (x0.1.2.2.1, (@rdL S_api_Poster Z_S_api_Poster (@appL S_api_Poster [] x0.1.1) (@I.nat .i64 y1.1.1)).2.2.2.2.2.2))))))) (@I.nat .i64 y1.1.1)).1, (y17.1.1, (@rdL S_api_Poster Z_S_api_Poster (@setL S_api_Poster (@appL S_api_Poster [] x0.1.1) (@I.nat .i64 y1.1.1) ((@rdL S_api_Poster Z_S_api_Poster (@appL S_api_Poster [] x0.1.1) (@I.nat .i64 y1.1.1)).1, ((@rdL S_api_Poster Z_S_api_Poster (@appL S_api_Poster [] x0.1.1) (@I.nat .i64 y1.1.1)).2.1, ((@rdL S_api_Poster Z_S_api_Poster (@appL S_api_Poster [] x0.1.1) (@I.nat .i64 y1.1.1)).2.2.1, ((@rdL S_api_Poster Z_S_api_Poster (@appL S_api_Poster [] x0.1.1) (@I.nat .i64 y1.1.1)).2.2.2.1, ((@rdL S_api_Poster Z_S_api_Poster (@appL S_api_Poster [] x0.1.1) (@I.nat .i64 y1.1.1)).2.2.2.2.1, (x0.1.2.2.1, (@rdL S_api_Poster Z_S_api_Poster (@appL S_api_Poster [] x0.1.1) (@I.nat .i64 y1.1.1)).2.2.2.2.2.2))))))) (@I.nat .i64 y1.1.1)).2.2))) (@I.nat .i64 y1.1.1)).1, ((@rdL S_api_Poster Z_S_api_Poster (@setL S_api_Poster (@setL S_api_Poster (@appL S_api_Poster [] x0.1.1) (@I.nat .i64 y1.1.1) ((@rdL S_api_Poster Z_S_api_Poster (@appL S_api_Poster [] x0.1.1) (@I.nat .i64 y1.1.1)).1, ((@rdL S_api_Poster Z_S_api_Poster (@appL S_api_Poster [] x0.1.1) (@I.nat .i64 y1.1.1)).2.1, ((@rdL S_api_Poster Z_S_api_Poster (@appL S_api_Poster [] x0.1.1) (@I.nat .i64 y1.1.1)).2.2.1, ((@rdL S_api_Poster Z_S_api_Poster (@appL S_api_Poster [] x0.1.1) (@I.nat .i64 y1.1.1)).2.2.2.1, ((@rdL S_api_Poster Z_S_api_Poster (@appL S_api_Poster [] x0.1.1) (@I.nat .i64 y1.1.1)).2.2.2.2.1, (x0.1.2.2.1, (@rdL S_api_Poster Z_S_api_Poster (@appL S_api_Poster [] x0.1.1) (@I.nat .i64 y1.1.1)).2.2.2.2.2.2))))))) (@I.nat .i64 y1.1.1) ((@rdL S_api_Poster Z_S_api_Poster (@setL S_api_Poster (@appL S_api_Poster [] x0.1.1) (@I.nat .i64 y1.1.1) ((@rdL S_api_Poster Z_S_api_Poster (@appL S_api_Poster [] x0.1.1) (@I.nat .i64 y1.1.1)).1, ((@rdL S_api_Poster Z_S_api_Poster (@appL S_api_Poster [] x0.1.1) (@I.nat .i64 y1.1.1)).2.1, ((@rdL S_api_Poster Z_S_api_Poster (@appL S_api_Poster [] x0.1.1) (@I.nat .i64 y1.1.1)).2.2.1, ((@rdL S_api_Poster Z_S_api_Poster (@appL S_api_Poster [] x0.1.1) (@I.nat .i64 y1.1.1)).2.2.2.1, ((@rdL S_api_Poster Z_S_api_Poster (@appL S_api_Poster [] x0.1.1) (@I.nat .i64 y1.1.1)).2.2.2.2.1, (x0.1.2.2.1, (@rdL S_api_Poster Z_S_api_Poster (@appL S_api_Poster [] x0.1.1) (@I.nat .i64 y1.1.1)).2.2.2.2.2.2))))))) (@I.nat .i64 y1.1.1)).1, (y17.1.1, (@rdL S_api_Poster Z_S_api_Poster (@setL S_api_Poster (@appL S_api_Poster [] x0.1.1) (@I.nat .i64 y1.1.1) ((@rdL S_api_Poster Z_S_api_Poster (@appL S_api_Poster [] x0.1.1) (@I.nat .i64 y1.1.1)).1, ((@rdL S_api_Poster Z_S_api_Poster (@appL S_api_Poster [] x0.1.1) (@I.nat .i64 y1.1.1)).2.1, ((@rdL S_api_Poster Z_S_api_Poster (@appL S_api_Poster [] x0.1.1) (@I.nat .i64 y1.1.1)).2.2.1, ((@rdL S_api_Poster Z_S_api_Poster (@appL S_api_Poster [] x0.1.1) (@I.nat .i64 y1.1.1)).2.2.2.1, ((@rdL S_api_Poster Z_S_api_Poster (@appL S_api_Poster [] x0.1.1) (@I.nat .i64 y1.1.1)).2.2.2.2.1, (x0.1.2.2.1, (@rdL S_api_Poster Z_S_api_Poster (@appL S_api_Poster [] x0.1.1) (@I.nat .i64 y1.1.1)).2.2.2.2.2.2))))))) (@I.nat .i64 y1.1.1)).2.2))) (@I.nat .i64 y1.1.1)).2.1, (y18.1.1, (@rdL S_api_Poster Z_S_api_Poster (@setL S_api_Poster (@setL S_api_Poster (@appL S_api_Poster [] x0.1.1) (@I.nat .i64 y1.1.1) ((@rdL S_api_Poster Z_S_api_Poster (@appL S_api_Poster [] x0.1.1) (@I.nat .i64 y1.1.1)).1, ((@rdL S_api_Poster Z_S_api_Poster (@appL S_api_Poster [] x0.1.1) (@I.nat .i64 y1.1.1)).2.1, ((@rdL S_api_Poster Z_S_api_Poster (@appL S_api_Poster [] x0.1.1) (@I.nat .i64 y1.1.1)).2.2.1, ((@rdL S_api_Poster Z_S_api_Poster (@appL S_api_Poster [] x0.1.1) (@I.nat .i64 y1.1.1)).2.2.2.1, ((@rdL S_api_Poster Z_S_api_Poster (@appL S_api_Poster [] x0.1.1) (@I.nat .i64 y1.1.1)).2.2.2.2.1, (x0.1.2.2.1, (@rdL S_api_Poster Z_S_api_Poster (@appL S_api_Poster [] x0.1.1) (@I.nat .i64 y1.1.1)).2.2.2.2.2.2))))))) (@I.nat .i64 y1.1.1) ((@rdL S_api_Poster Z_S_api_Poster (@setL S_api_Poster (@appL S_api_Poster [] x0.1.1) (@I.nat .i64 y1.1.1) ((@rdL S_api_Poster Z_S_api_Poster (@appL S_api_Poster [] x0.1.1) (@I.nat .i64 y1.1.1)).1, ((@rdL S_api_Poster Z_S_api_Poster (@appL S_api_Poster [] x0.1.1) (@I.nat .i64 y1.1.1)).2.1, ((@rdL S_api_Poster Z_S_api_Poster (@appL S_api_Poster [] x0.1.1) (@I.nat .i64 y1.1.1)).2.2.1, ((@rdL S_api_Poster Z_S_api_Poster (@appL S_api_Poster [] x0.1.1) (@I.nat .i64 y1.1.1)).2.2.2.1, ((@rdL S_api_Poster Z_S_api_Poster (@appL S_api_Poster [] x0.1.1) (@I.nat .i64 y1.1.1)).2.2.2.2.1, (x0.1.2.2.1, (@rdL S_api_Poster Z_S_api_Poster (@appL S_api_Poster [] x0.1.1) (@I.nat .i64 y1.1.1)).2.2.2.2.2.2))))))) (@I.nat .i64 y1.1.1)).1, (y17.1.1, (@rdL S_api_Poster Z_S_api_Poster (@setL S_api_Poster (@appL S_api_Poster [] x0.1.1) (@I.nat .i64 y1.1.1) ((@rdL S_api_Poster Z_S_api_Poster (@appL S_api_Poster [] x0.1.1) (@I.nat .i64 y1.1.1)).1, ((@rdL S_api_Poster Z_S_api_Poster (@appL S_api_Poster [] x0.1.1) (@I.nat .i64 y1.1.1)).2.1, ((@rdL S_api_Poster Z_S_api_Poster (@appL S_api_Poster [] x0.1.1) (@I.nat .i64 y1.1.1)).2.2.1, ((@rdL S_api_Poster Z_S_api_Poster (@appL S_api_Poster [] x0.1.1) (@I.nat .i64 y1.1.1)).2.2.2.1, ((@rdL S_api_Poster Z_S_api_Poster (@appL S_api_Poster [] x0.1.1) (@I.nat .i64 y1.1.1)).2.2.2.2.1, (x0.1.2.2.1, (@rdL S_api_Poster Z_S_api_Poster (@appL S_api_Poster [] x0.1.1) (@I.nat .i64 y1.1.1)).2.2.2.2.2.2))))))) (@I.nat .i64 y1.1.1)).2.2))) (@I.nat .i64 y1.1.1)).2.2.2)))) (@I.nat .i64 y1.1.1)).2.2.1, (y19.1.1, (@rdL S_api_Poster Z_S_api_Poster (@setL S_api_Poster (@setL S_api_Poster (@setL S_api_Poster (@appL S_api_Poster [] x0.1.1) (@I.nat .i64 y1.1.1) ((@rdL S_api_Poster Z_S_api_Poster (@appL S_api_Poster [] x0.1.1) (@I.nat .i64 y1.1.1)).1, ((@rdL S_api_Poster Z_S_api_Poster (@appL S_api_Poster [] x0.1.1) (@I.nat .i64 y1.1.1)).2.1, ((@rdL S_api_Poster Z_S_api_Poster (@appL S_api_Poster [] x0.1.1) (@I.nat .i64 y1.1.1)).2.2.1, ((@rdL S_api_Poster Z_S_api_Poster (@appL S_api_Poster [] x0.1.1) (@I.nat .i64 y1.1.1)).2.2.2.1, ((@rdL S_api_Poster Z_S_api_Poster (@appL S_api_Poster [] x0.1.1) (@I.nat .i64 y1.1.1)).2.2.2.2.1, (x0.1.2.2.1, (@rdL S_api_Poster Z_S_api_Poster (@appL S_api_Poster [] x0.1.1) (@I.nat .i64 y1.1.1)).2.2.2.2.2.2))))))) (@I.nat .i64 y1.1.1) ((@rdL S_api_Poster Z_S_api_Poster (@setL S_api_Poster (@appL S_api_Poster [] x0.1.1) (@I.nat .i64 y1.1.1) ((@rdL S_api_Poster Z_S_api_Poster (@appL S_api_Poster [] x0.1.1) (@I.nat .i64 y1.1.1)).1, ((@rdL S_api_Poster Z_S_api_Poster (@appL S_api_Poster [] x0.1.1) (@I.nat .i64 y1.1.1)).2.1, ((@rdL S_api_Poster Z_S_api_Poster (@appL S_api_Poster [] x0.1.1) (@I.nat .i64 y1.1.1)).2.2.1, ((@rdL S_api_Poster Z_S_api_Poster (@appL S_api_Poster [] x0.1.1) (@I.nat .i64 y1.1.1)).2.2.2.1, ((@rdL S_api_Poster Z_S_api_Poster (@appL S_api_Poster [] x0.1.1) (@I.nat .i64 y1.1.1)).2.2.2.2.1, (x0.1.2.2.1, (@rdL S_api_Poster Z_S_api_Poster (@appL S_api_Poster [] x0.1.1) (@I.nat .i64 y1.1.1)).2.2.2.2.2.2))))))) (@I.nat .i64 y1.1.1)).1, (y17.1.1, (@rdL S_api_Poster Z_S_api_Poster (@setL S_api_Poster (@appL S_api_Poster [] x0.1.1) (@I.nat .i64 y1.1.1) ((@rdL S_api_Poster Z_S_api_Poster (@appL S_api_Poster [] x0.1.1) (@I.nat .i64 y1.1.1)).1, ((@rdL S_api_Poster Z_S_api_Poster (@appL S_api_Poster [] x0.1.1) (@I.nat .i64 y1.1.1)).2.1, ((@rdL S_api_Poster Z_S_api_Poster (@appL S_api_Poster [] x0.1.1) (@I.nat .i64 y1.1.1)).2.2.1, ((@rdL S_api_Poster Z_S_api_Poster (@appL S_api_Poster [] x0.1.1) (@I.nat .i64 y1.1.1)).2.2.2.1, ((@rdL S_api_Poster Z_S_api_Poster (@appL S_api_Poster [] x0.1.1) (@I.nat .i64 y1.1.1)).2.2.2.2.1, (x0.1.2.2.1, (@rdL S_api_Poster Z_S_api_Poster (@appL S_api_Poster [] x0.1.1) (@I.nat .i64 y1.1.1)).2.2.2.2.2.2))))))) (@I.nat .i64 y1.1.1)).2.2))) (@I.nat .i64 y1.1.1) ((@rdL S_api_Poster Z_S_api_Poster (@setL S_api_Poster (@setL S_api_Poster (@appL S_api_Poster [] x0.1.1) (@I.nat .i64 y1.1.1) ((@rdL S_api_Poster Z_S_api_Poster (@appL S_api_Poster [] x0.1.1) (@I.nat .i64 y1.1.1)).1, ((@rdL S_api_Poster Z_S_api_Poster (@appL S_api_Poster [] x0.1.1) (@I.nat .i64 y1.1.1)).2.1, ((@rdL S_api_Poster Z_S_api_Poster (@appL S_api_Poster [] x0.1.1) (@I.nat .i64 y1.1.1)).2.2.1, ((@rdL S_api_Poster Z_S_api_Poster (@appL S_api_Poster [] x0.1.1) (@I.nat .i64 y1.1.1)).2.2.2.1, ((@rdL S_api_Poster Z_S_api_Poster (@appL S_api_Poster [] x0.1.1) (@I.nat .i64 y1.1.1)).2.2.2.2.1, (x0.1.2.2.1, (@rdL S_api_Poster Z_S_api_Poster (@appL S_api_Poster [] x0.1.1) (@I.nat .i64 y1.1.1)).2.2.2.2.2.2))))))) (@I.nat .i64 y1.1.1) ((@rdL S_api_Poster Z_S_api_Poster (@setL S_api_Poster (@appL S_api_Poster [] x0.1.1) (@I.nat .i64 y1.1.1) ((@rdL S_api_Poster Z_S_api_Poster (@appL S_api_Poster [] x0.1.1) (@I.nat .i64 y1.1.1)).1, ((@rdL S_api_Poster Z_S_api_Poster (@appL S_api_Poster [] x0.1.1) (@I.nat .i64 y1.1.1)).2.1, ((@rdL S_api_Poster Z_S_api_Poster (@appL S_api_Poster [] x0.1.1) (@I.nat .i64 y1.1.1)).2.2.1, ((@rdL S_api_Poster Z_S_api_Poster (@appL S_api_Poster [] x0.1.1) (@I.nat .i64 y1.1.1)).2.2.2.1, ((@rdL S_api_Poster Z_S_api_Poster (@appL S_api_Poster [] x0.1.1) (@I.nat .i64 y1.1.1)).2.2.2.2.1, (x0.1.2.2.1, (@rdL S_api_Poster Z_S_api_Poster (@appL S_api_Poster [] x0.1.1) (@I.nat .i64 y1.1.1)).2.2.2.2.2.2))))))) (@I.nat .i64 y1.1.1)).1, (y17.1.1, (@rdL S_api_Poster Z_S_api_Poster (@setL S_api_Poster (@appL S_api_Poster [] x0.1.1) (@I.nat .i64 y1.1.1) ((@rdL S_api_Poster Z_S_api_Poster (@appL S_api_Poster [] x0.1.1) (@I.nat .i64 y1.1.1)).1, ((@rdL S_api_Poster Z_S_api_Poster (@appL S_api_Poster [] x0.1.1) (@I.nat .i64 y1.1.1)).2.1, ((@rdL S_api_Poster Z_S_api_Poster (@appL S_api_Poster [] x0.1.1) (@I.nat .i64 y1.1.1)).2.2.1, ((@rdL S_api_Poster Z_S_api_Poster (@appL S_api_Poster [] x0.1.1) (@I.nat .i64 y1.1.1)).2.2.2.1, ((@rdL S_api_Poster Z_S_api_Poster (@appL S_api_Poster [] x0.1.1) (@I.nat .i64 y1.1.1)).2.2.2.2.1, (x0.1.2.2.1, (@rdL S_api_Poster Z_S_api_Poster (@appL S_api_Poster [] x0.1.1) (@I.nat .i64 y1.1.1)).2.2.2.2.2.2))))))) (@I.nat .i64 y1.1.1)).2.2))) (@I.nat .i64 y1.1.1)).1, ((@rdL S_api_Poster Z_S_api_Poster (@setL S_api_Poster (@setL S_api_Poster (@appL S_api_Poster [] x0.1.1) (@I.nat .i64 y1.1.1) ((@rdL S_api_Poster Z_S_api_Poster (@appL S_api_Poster [] x0.1.1) (@I.nat .i64 y1.1.1)).1, ((@rdL S_api_Poster Z_S_api_Poster (@appL S_api_Poster [] x0.1.1) (@I.nat .i64 y1.1.1)).2.1, ((@rdL S_api_Poster Z_S_api_Poster (@appL S_api_Poster [] x0.1.1) (@I.nat .i64 y1.1.1)).2.2.1, ((@rdL S_api_Poster Z_S_api_Poster (@appL S_api_Poster [] x0.1.1) (@I.nat .i64 y1.1.1)).2.2.2.1, ((@rdL S_api_Poster Z_S_api_Poster (@appL S_api_Poster [] x0.1.1) (@I.nat .i64 y1.1.1)).2.2.2.2.1, (x0.1.2.2.1, (@rdL S_api_Poster Z_S_api_Poster (@appL S_api_Poster [] x0.1.1) (@I.nat .i64 y1.1.1)).2.2.2.2.2.2))))))) (@I.nat .i64 y1.1.1) ((@rdL S_api_Poster Z_S_api_Poster (@setL S_api_Poster (@appL S_api_Poster [] x0.1.1) (@I.nat .i64 y1.1.1) ((@rdL S_api_Poster Z_S_api_Poster (@appL S_api_Poster [] x0.1.1) (@I.nat .i64 y1.1.1)).1, ((@rdL S_api_Poster Z_S_api_Poster (@appL S_api_Poster [] x0.1.1) (@I.nat .i64 y1.1.1)).2.1, ((@rdL S_api_Poster Z_S_api_Poster (@appL S_api_Poster [] x0.1.1) (@I.nat .i64 y1.1.1)).2.2.1, ((@rdL S_api_Poster Z_S_api_Poster (@appL S_api_Poster [] x0.1.1) (@I.nat .i64 y1.1.1)).2.2.2.1, ((@rdL S_api_Poster Z_S_api_Poster (@appL S_api_Poster [] x0.1.1) (@I.nat .i64 y1.1.1)).2.2.2.2.1, (x0.1.2.2.1, (@rdL S_api_Poster Z_S_api_Poster (@appL S_api_Poster [] x0.1.1) (@I.nat .i64 y1.1.1)).2.2.2.2.2.2))))))) (@I.nat .i64 y1.1.1)).1, (y17.1.1, (@rdL S_api_Poster Z_S_api_Poster (@setL S_api_Poster (@appL S_api_Poster [] x0.1.1) (@I.nat .i64 y1.1.1) ((@rdL S_api_Poster Z_S_api_Poster (@appL S_api_Poster [] x0.1.1) (@I.nat .i64 y1.1.1)).1, ((@rdL S_api_Poster Z_S_api_Poster (@appL S_api_Poster [] x0.1.1) (@I.nat .i64 y1.1.1)).2.1, ((@rdL S_api_Poster Z_S_api_Poster (@appL S_api_Poster [] x0.1.1) (@I.nat .i64 y1.1.1)).2.2.1, ((@rdL S_api_Poster Z_S_api_Poster (@appL S_api_Poster [] x0.1.1) (@I.nat .i64 y1.1.1)).2.2.2.1, ((@rdL S_api_Poster Z_S_api_Poster (@appL S_api_Poster [] x0.1.1) (@I.nat .i64 y1.1.1)).2.2.2.2.1, (x0.1.2.2.1, (@rdL S_api_Poster Z_S_api_Poster (@appL S_api_Poster [] x0.1.1) (@I.nat .i64 y1.1.1)).2.2.2.2.2.2))))))) (@I.nat .i64 y1.1.1)).2.2))) (@I.nat .i64 y1.1.1)).2.1, (y18.1.1, (@rdL S_api_Poster Z_S_api_Poster (@setL S_api_Poster (@setL S_api_Poster (@appL S_api_Poster [] x0.1.1) (@I.nat .i64 y1.1.1) ((@rdL S_api_Poster Z_S_api_Poster (@appL S_api_Poster [] x0.1.1) (@I.nat .i64 y1.1.1)).1, ((@rdL S_api_Poster Z_S_api_Poster (@appL S_api_Poster [] x0.1.1) (@I.nat .i64 y1.1.1)).2.1, ((@rdL S_api_Poster Z_S_api_Poster (@appL S_api_Poster [] x0.1.1) (@I.nat .i64 y1.1.1)).2.2.1, ((@rdL S_api_Poster Z_S_api_Poster (@appL S_api_Poster [] x0.1.1) (@I.nat .i64 y1.1.1)).2.2.2.1, ((@rdL S_api_Poster Z_S_api_Poster (@appL S_api_Poster [] x0.1.1) (@I.nat .i64 y1.1.1)).2.2.2.2.1, (x0.1.2.2.1, (@rdL S_api_Poster Z_S_api_Poster (@appL S_api_Poster [] x0.1.1) (@I.nat .i64 y1.1.1)).2.2.2.2.2.2))))))) (@I.nat .i64 y1.1.1) ((@rdL S_api_Poster Z_S_api_Poster (@setL S_api_Poster (@appL S_api_Poster [] x0.1.1) (@I.nat .i64 y1.1.1) ((@rdL S_api_Poster Z_S_api_Poster (@appL S_api_Poster [] x0.1.1) (@I.nat .i64 y1.1.1)).1, ((@rdL S_api_Poster Z_S_api_Poster (@appL S_api_Poster [] x0.1.1) (@I.nat .i64 y1.1.1)).2.1, ((@rdL S_api_Poster Z_S_api_Poster (@appL S_api_Poster [] x0.1.1) (@I.nat .i64 y1.1.1)).2.2.1, ((@rdL S_api_Poster Z_S_api_Poster (@appL S_api_Poster [] x0.1.1) (@I.nat .i64 y1.1.1)).2.2.2.1, ((@rdL S_api_Poster Z_S_api_Poster (@appL S_api_Poster [] x0.1.1) (@I.nat .i64 y1.1.1)).2.2.2.2.1, (x0.1.2.2.1, (@rdL S_api_Poster Z_S_api_Poster (@appL S_api_Poster [] x0.1.1) (@I.nat .i64 y1.1.1)).2.2.2.2.2.2))))))) (@I.nat .i64 y1.1.1)).1, (y17.1.1, (@rdL S_api_Poster Z_S_api_Poster (@setL S_api_Poster (@appL S_api_Poster [] x0.1.1) (@I.nat .i64 y1.1.1) ((@rdL S_api_Poster Z_S_api_Poster (@appL S_api_Poster [] x0.1.1) (@I.nat .i64 y1.1.1)).1, ((@rdL S_api_Poster Z_S_api_Poster (@appL S_api_Poster [] x0.1.1) (@I.nat .i64 y1.1.1)).2.1, ((@rdL S_api_Poster Z_S_api_Poster (@appL S_api_Poster [] x0.1.1) (@I.nat .i64 y1.1.1)).2.2.1, ((@rdL S_api_Poster Z_S_api_Poster (@appL S_api_Poster [] x0.1.1) (@I.nat .i64 y1.1.1)).2.2.2.1, ((@rdL S_api_Poster Z_S_api_Poster (@appL S_api_Poster [] x0.1.1) (@I.nat .i64 y1.1.1)).2.2.2.2.1, (x0.1.2.2.1, (@rdL S_api_Poster Z_S_api_Poster (@appL S_api_Poster [] x0.1.1) (@I.nat .i64 y1.1.1)).2.2.2.2.2.2))))))) (@I.nat .i64 y1.1.1)).2.2))) (@I.nat .i64 y1.1.1)).2.2.2)))) (@I.nat .i64 y1.1.1)).2.2.2.2))))), ((I.of .i64 0), ())), ()))
           (optF (none) (pontageref1_ToUint256 K ((y6.1.1, ()), ())) fun y17 =>
           optF (none) (pontageref1_ToUint256 K ((y9.1.1, ()), ())) fun y18 =>
           optF (none) (pontageref1_ToUint256 K ((y12.1.1, ()), ())) fun y19 =>
           some (((@setL S_api_Poster (@setL S_api_Poster (@setL S_api_Poster (@appL S_api_Poster [] x0.1.1) (@I.nat .i64 y1.1.1) ((@rdL S_api_Poster Z_S_api_Poster (@appL S_api_Poster [] x0.1.1) (@I.nat .i64 y1.1.1)).1, (y17.1.1, (@rdL S_api_Poster Z_S_api_Poster (@appL S_api_Poster [] x0.1.1) (@I.nat .i64 y1.1.1)).2.2))) (@I.nat .i64 y1.1.1) ((@rdL S_api_Poster Z_S_api_Poster (@setL S_api_Poster (@appL S_api_Poster [] x0.1.1) (@I.nat .i64 y1.1.1) ((@rdL S_api_Poster Z_S_api_Poster (@appL S_api_Poster [] x0.1.1) (@I.nat .i64 y1.1.1)).1, (y17.1.1, (@rdL S_api_Poster Z_S_api_Poster (@appL S_api_Poster [] x0.1.1) (@I.nat .i64 y1.1.1)).2.2))) (@I.nat .i64 y1.1.1)).1, ((@rdL S_api_Poster Z_S_api_Poster (@setL S_api_Poster (@appL S_api_Poster [] x0.1.1) (@I.nat .i64 y1.1.1) ((@rdL S_api_Poster Z_S_api_Poster (@appL S_api_Poster [] x0.1.1) (@I.nat .i64 y1.1.1)).1, (y17.1.1, (@rdL S_api_Poster Z_S_api_Poster (@appL S_api_Poster [] x0.1.1) (@I.nat .i64 y1.1.1)).2.2))) (@I.nat .i64 y1.1.1)).2.1, (y18.1.1, (@rdL S_api_Poster Z_S_api_Poster (@setL S_api_Poster (@appL S_api_Poster [] x0.1.1) (@I.nat .i64 y1.1.1) ((@rdL S_api_Poster Z_S_api_Poster (@appL S_api_Poster [] x0.1.1) (@I.nat .i64 y1.1.1)).1, (y17.1.1, (@rdL S_api_Poster Z_S_api_Poster (@appL S_api_Poster [] x0.1.1) (@I.nat .i64 y1.1.1)).2.2))) (@I.nat .i64 y1.1.1)).2.2.2)))) (@I.nat .i64 y1.1.1) ((@rdL S_api_Poster Z_S_api_Poster (@setL S_api_Poster (@setL S_api_Poster (@appL S_api_Poster [] x0.1.1) (@I.nat .i64 y1.1.1) ((@rdL S_api_Poster Z_S_api_Poster (@appL S_api_Poster [] x0.1.1) (@I.nat .i64 y1.1.1)).1, (y17.1.1, (@rdL S_api_Poster Z_S_api_Poster (@appL S_api_Poster [] x0.1.1) (@I.nat .i64 y1.1.1)).2.2))) (@I.nat .i64 y1.1.1) ((@rdL S_api_Poster Z_S_api_Poster (@setL S_api_Poster (@appL S_api_Poster [] x0.1.1) (@I.nat .i64 y1.1.1) ((@rdL S_api_Poster Z_S_api_Poster (@appL S_api_Poster [] x0.1.1) (@I.nat .i64 y1.1.1)).1, (y17.1.1, (@rdL S_api_Poster Z_S_api_Poster (@appL S_api_Poster [] x0.1.1) (@I.nat .i64 y1.1.1)).2.2))) (@I.nat .i64 y1.1.1)).1, ((@rdL S_api_Poster Z_S_api_Poster (@setL S_api_Poster (@appL S_api_Poster [] x0.1.1) (@I.nat .i64 y1.1.1) ((@rdL S_api_Poster Z_S_api_Poster (@appL S_api_Poster [] x0.1.1) (@I.nat .i64 y1.1.1)).1, (y17.1.1, (@rdL S_api_Poster Z_S_api_Poster (@appL S_api_Poster [] x0.1.1) (@I.nat .i64 y1.1.1)).2.2))) (@I.nat .i64 y1.1.1)).2.1, (y18.1.1, (@rdL S_api_Poster Z_S_api_Poster (@setL S_api_Poster (@appL S_api_Poster [] x0.1.1) (@I.nat .i64 y1.1.1) ((@rdL S_api_Poster Z_S_api_Poster (@appL S_api_Poster [] x0.1.1) (@I.nat .i64 y1.1.1)).1, (y17.1.1, (@rdL S_api_Poster Z_S_api_Poster (@appL S_api_Poster [] x0.1.1) (@I.nat .i64 y1.1.1)).2.2))) (@I.nat .i64 y1.1.1)).2.2.2)))) (@I.nat .i64 y1.1.1)).1, ((@rdL S_api_Poster Z_S_api_Poster (@setL S_api_Poster (@setL S_api_Poster (@appL S_api_Poster [] x0.1.1) (@I.nat .i64 y1.1.1) ((@rdL S_api_Poster Z_S_api_Poster (@appL S_api_Poster [] x0.1.1) (@I.nat .i64 y1.1.1)).1, (y17.1.1, (@rdL S_api_Poster Z_S_api_Poster (@appL S_api_Poster [] x0.1.1) (@I.nat .i64 y1.1.1)).2.2))) (@I.nat .i64 y1.1.1) ((@rdL S_api_Poster Z_S_api_Poster (@setL S_api_Poster (@appL S_api_Poster [] x0.1.1) (@I.nat .i64 y1.1.1) ((@rdL S_api_Poster Z_S_api_Poster (@appL S_api_Poster [] x0.1.1) (@I.nat .i64 y1.1.1)).1, (y17.1.1, (@rdL S_api_Poster Z_S_api_Poster (@appL S_api_Poster [] x0.1.1) (@I.nat .i64 y1.1.1)).2.2))) (@I.nat .i64 y1.1.1)).1, ((@rdL S_api_Poster Z_S_api_Poster (@setL S_api_Poster (@appL S_api_Poster [] x0.1.1) (@I.nat .i64 y1.1.1) ((@rdL S_api_Poster Z_S_api_Poster (@appL S_api_Poster [] x0.1.1) (@I.nat .i64 y1.1.1)).1, (y17.1.1, (@rdL S_api_Poster Z_S_api_Poster (@appL S_api_Poster [] x0.1.1) (@I.nat .i64 y1.1.1)).2.2))) (@I.nat .i64 y1.1.1)).2.1, (y18.1.1, (@rdL S_api_Poster Z_S_api_Poster (@setL S_api_Poster (@appL S_api_Poster [] x0.1.1) (@I.nat .i64 y1.1.1) ((@rdL S_api_Poster Z_S_api_Poster (@appL S_api_Poster [] x0.1.1) (@I.nat .i64 y1.1.1)).1, (y17.1.1, (@rdL S_api_Poster Z_S_api_Poster (@appL S_api_Poster [] x0.1.1) (@I.nat .i64 y1.1.1)).2.2))) (@I.nat .i64 y1.1.1)).2.2.2)))) (@I.nat .i64 y1.1.1)).2.1, ((@rdL S_api_Poster Z_S_api_Poster (@setL S_api_Poster (@setL S_api_Poster (@appL S_api_Poster [] x0.1.1) (@I.nat .i64 y1.1.1) ((@rdL S_api_Poster Z_S_api_Poster (@appL S_api_Poster [] x0.1.1) (@I.nat .i64 y1.1.1)).1, (y17.1.1, (@rdL S_api_Poster Z_S_api_Poster (@appL S_api_Poster [] x0.1.1) (@I.nat .i64 y1.1.1)).2.2))) (@I.nat .i64 y1.1.1) ((@rdL S_api_Poster Z_S_api_Poster (@setL S_api_Poster (@appL S_api_Poster [] x0.1.1) (@I.nat .i64 y1.1.1) ((@rdL S_api_Poster Z_S_api_Poster (@appL S_api_Poster [] x0.1.1) (@I.nat .i64 y1.1.1)).1, (y17.1.1, (@rdL S_api_Poster Z_S_api_Poster (@appL S_api_Poster [] x0.1.1) (@I.nat .i64 y1.1.1)).2.2))) (@I.nat .i64 y1.1.1)).1, ((@rdL S_api_Poster Z_S_api_Poster (@setL S_api_Poster (@appL S_api_Poster [] x0.1.1) (@I.nat .i64 y1.1.1) ((@rdL S_api_Poster Z_S_api_Poster (@appL S_api_Poster [] x0.1.1) (@I.nat .i64 y1.1.1)).1, (y17.1.1, (@rdL S_api_Poster Z_S_api_Poster (@appL S_api_Poster [] x0.1.1) (@I.nat .i64 y1.1.1)).2.2))) (@I.nat .i64 y1.1.1)).2.1, (y18.1.1, (@rdL S_api_Poster Z_S_api_Poster (@setL S_api_Poster (@appL S_api_Poster [] x0.1.1) (@I.nat .i64 y1.1.1) ((@rdL S_api_Poster Z_S_api_Poster (@appL S_api_Poster [] x0.1.1) (@I.nat .i64 y1.1.1)).1, (y17.1.1, (@rdL S_api_Poster Z_S_api_Poster (@appL S_api_Poster [] x0.1.1) (@I.nat .i64 y1.1.1)).2.2))) (@I.nat .i64 y1.1.1)).2.2.2)))) (@I.nat .i64 y1.1.1)).2.2.1, (y19.1.1, (@rdL S_api_Poster Z_S_api_Poster (@setL S_api_Poster (@setL S_api_Poster (@appL S_api_Poster [] x0.1.1) (@I.nat .i64 y1.1.1) ((@rdL S_api_Poster Z_S_api_Poster (@appL S_api_Poster [] x0.1.1) (@I.nat .i64 y1.1.1)).1, (y17.1.1, (@rdL S_api_Poster Z_S_api_Poster (@appL S_api_Poster [] x0.1.1) (@I.nat .i64 y1.1.1)).2.2))) (@I.nat .i64 y1.1.1) ((@rdL S_api_Poster Z_S_api_Poster (@setL S_api_Poster (@appL S_api_Poster [] x0.1.1) (@I.nat .i64 y1.1.1) ((@rdL S_api_Poster Z_S_api_Poster (@appL S_api_Poster [] x0.1.1) (@I.nat .i64 y1.1.1)).1, (y17.1.1, (@rdL S_api_Poster Z_S_api_Poster (@appL S_api_Poster [] x0.1.1) (@I.nat .i64 y1.1.1)).2.2))) (@I.nat .i64 y1.1.1)).1, ((@rdL S_api_Poster Z_S_api_Poster (@setL S_api_Poster (@appL S_api_Poster [] x0.1.1) (@I.nat .i64 y1.1.1) ((@rdL S_api_Poster Z_S_api_Poster (@appL S_api_Poster [] x0.1.1) (@I.nat .i64 y1.1.1)).1, (y17.1.1, (@rdL S_api_Poster Z_S_api_Poster (@appL S_api_Poster [] x0.1.1) (@I.nat .i64 y1.1.1)).2.2))) (@I.nat .i64 y1.1.1)).2.1, (y18.1.1, (@rdL S_api_Poster Z_S_api_Poster (@setL S_api_Poster (@appL S_api_Poster [] x0.1.1) (@I.nat .i64 y1.1.1) ((@rdL S_api_Poster Z_S_api_Poster (@appL S_api_Poster [] x0.1.1) (@I.nat .i64 y1.1.1)).1, (y17.1.1, (@rdL S_api_Poster Z_S_api_Poster (@appL S_api_Poster [] x0.1.1) (@I.nat .i64 y1.1.1)).2.2))) (@I.nat .i64 y1.1.1)).2.2.2)))) (@I.nat .i64 y1.1.1)).2.2.2.2))))), ((I.of .i64 0), ())), ())))
          (optF (none) (pontageref1_ToUint256 K ((y6.1.1, ()), ())) fun y17 =>
          optF (none) (pontageref1_ToUint256 K ((y9.1.1, ()), ())) fun y18 =>
          optF (none) (pontageref1_ToUint256 K ((y12.1.1, ()), ())) fun y19 =>
          some (((@setL S_api_Poster (@setL S_api_Poster (@setL S_api_Poster (@appL S_api_Poster [] x0.1.1) (@I.nat .i64 y1.1.1) ((@rdL S_api_Poster Z_S_api_Poster (@appL S_api_Poster [] x0.1.1) (@I.nat .i64 y1.1.1)).1, (y17.1.1, (@rdL S_api_Poster Z_S_api_Poster (@appL S_api_Poster [] x0.1.1) (@I.nat .i64 y1.1.1)).2.2))) (@I.nat .i64 y1.1.1) ((@rdL S_api_Poster Z_S_api_Poster (@setL S_api_Poster (@appL S_api_Poster [] x0.1.1) (@I.nat .i64 y1.1.1) ((@rdL S_api_Poster Z_S_api_Poster (@appL S_api_Poster [] x0.1.1) (@I.nat .i64 y1.1.1)).1, (y17.1.1, (@rdL S_api_Poster Z_S_api_Poster (@appL S_api_Poster [] x0.1.1) (@I.nat .i64 y1.1.1)).2.2))) (@I.nat .i64 y1.1.1)).1, ((@rdL S_api_Poster Z_S_api_Poster (@setL S_api_Poster (@appL S_api_Poster [] x0.1.1) (@I.nat .i64 y1.1.1) ((@rdL S_api_Poster Z_S_api_Poster (@appL S_api_Poster [] x0.1.1) (@I.nat .i64 y1.1.1)).1, (y17.1.1, (@rdL S_api_Poster Z_S_api_Poster (@appL S_api_Poster [] x0.1.1) (@I.nat .i64 y1.1.1)).2.2))) (@I.nat .i64 y1.1.1)).2.1, (y18.1.1, (@rdL S_api_Poster Z_S_api_Poster (@setL S_api_Poster (@appL S_api_Poster [] x0.1.1) (@I.nat .i64 y1.1.1) ((@rdL S_api_Poster Z_S_api_Poster (@appL S_api_Poster [] x0.1.1) (@I.nat .i64 y1.1.1)).1, (y17.1.1, (@rdL S_api_Poster Z_S_api_Poster (@appL S_api_Poster [] x0.1.1) (@I.nat .i64 y1.1.1)).2.2))) (@I.nat .i64 y1.1.1)).2.2.2)))) (@I.nat .i64 y1.1.1) ((@rdL S_api_Poster Z_S_api_Poster (@setL S_api_Poster (@setL S_api_Poster (@appL S_api_Poster [] x0.1.1) (@I.nat .i64 y1.1.1) ((@rdL S_api_Poster Z_S_api_Poster (@appL S_api_Poster [] x0.1.1) (@I.nat .i64 y1.1.1)).1, (y17.1.1, (@rdL S_api_Poster Z_S_api_Poster (@appL S_api_Poster [] x0.1.1) (@I.nat .i64 y1.1.1)).2.2))) (@I.nat .i64 y1.1.1) ((@rdL S_api_Poster Z_S_api_Poster (@setL S_api_Poster (@appL S_api_Poster [] x0.1.1) (@I.nat .i64 y1.1.1) ((@rdL S_api_Poster Z_S_api_Poster (@appL S_api_Poster [] x0.1.1) (@I.nat .i64 y1.1.1)).1, (y17.1.1, (@rdL S_api_Poster Z_S_api_Poster (@appL S_api_Poster [] x0.1.1) (@I.nat .i64 y1.1.1)).2.2))) (@I.nat .i64 y1.1.1)).1, ((@rdL S_api_Poster Z_S_api_Poster (@setL S_api_Poster (@appL S_api_Poster [] x0.1.1) (@I.nat .i64 y1.1.1) ((@rdL S_api_Poster Z_S_api_Poster (@appL S_api_Poster [] x0.1.1) (@I.nat .i64 y1.1.1)).1, (y17.1.1, (@rdL S_api_Poster Z_S_api_Poster (@appL S_api_Poster [] x0.1.1) (@I.nat .i64 y1.1.1)).2.2))) (@I.nat .i64 y1.1.1)).2.1, (y18.1.1, (@rdL S_api_Poster Z_S_api_Poster (@setL S_api_Poster (@appL S_api_Poster [] x0.1.1) (@I.nat .i64 y1.1.1) ((@rdL S_api_Poster Z_S_api_Poster (@appL S_api_Poster [] x0.1.1) (@I.nat .i64 y1.1.1)).1, (y17.1.1, (@rdL S_api_Poster Z_S_api_Poster (@appL S_api_Poster [] x0.1.1) (@I.nat .i64 y1.1.1)).2.2))) (@I.nat .i64 y1.1.1)).2.2.2)))) (@I.nat .i64 y1.1.1)).1, ((@rdL S_api_Poster Z_S_api_Poster (@setL S_api_Poster (@setL S_api_Poster (@appL S_api_Poster [] x0.1.1) (@I.nat .i64 y1.1.1) ((@rdL S_api_Poster Z_S_api_Poster (@appL S_api_Poster [] x0.1.1) (@I.nat .i64 y1.1.1)).1, (y17.1.1, (@rdL S_api_Poster Z_S_api_Poster (@appL S_api_Poster [] x0.1.1) (@I.nat .i64 y1.1.1)).2.2))) (@I.nat .i64 y1.1.1) ((@rdL S_api_Poster Z_S_api_Poster (@setL S_api_Poster (@appL S_api_Poster [] x0.1.1) (@I.nat .i64 y1.1.1) ((@rdL S_api_Poster Z_S_api_Poster (@appL S_api_Poster [] x0.1.1) (@I.nat .i64 y1.1.1)).1, (y17.1.1, (@rdL S_api_Poster Z_S_api_Poster (@appL S_api_Poster [] x0.1.1) (@I.nat .i64 y1.1.1)).2.2))) (@I.nat .i64 y1.1.1)).1, ((@rdL S_api_Poster Z_S_api_Poster (@setL S_api_Poster (@appL S_api_Poster [] x0.1.1) (@I.nat .i64 y1.1.1) ((@rdL S_api_Poster Z_S_api_Poster (@appL S_api_Poster [] x0.1.1) (@I.nat .i64 y1.1.1)).1, (y17.1.1, (@rdL S_api_Poster Z_S_api_Poster (@appL S_api_Poster [] x0.1.1) (@I.nat .i64 y1.1.1)).2.2))) (@I.nat .i64 y1.1.1)).2.1, (y18.1.1, (@rdL S_api_Poster Z_S_api_Poster (@setL S_api_Poster (@appL S_api_Poster [] x0.1.1) (@I.nat .i64 y1.1.1) ((@rdL S_api_Poster Z_S_api_Poster (@appL S_api_Poster [] x0.1.1) (@I.nat .i64 y1.1.1)).1, (y17.1.1, (@rdL S_api_Poster Z_S_api_Poster (@appL S_api_Poster [] x0.1.1) (@I.nat .i64 y1.1.1)).2.2))) (@I.nat .i64 y1.1.1)).2.2.2)))) (@I.nat .i64 y1.1.1)).2.1, ((@rdL S_api_Poster Z_S_api_Poster (@setL S_api_Poster (@setL S_api_Poster (@appL S_api_Poster [] x0.1.1) (@I.nat .i64 y1.1.1) ((@rdL S_api_Poster Z_S_api_Poster (@appL S_api_Poster [] x0.1.1) (@I.nat .i64 y1.1.1)).1, (y17.1.1, (@rdL S_api_Poster Z_S_api_Poster (@appL S_api_Poster [] x0.1.1) (@I.nat .i64 y1.1.1)).2.2))) (@I.nat .i64 y1.1.1) ((@rdL S_api_Poster Z_S_api_Poster (@setL S_api_Poster (@appL S_api_Poster [] x0.1.1) (@I.nat .i64 y1.1.1) ((@rdL S_api_Poster Z_S_api_Poster (@appL S_api_Poster [] x0.1.1) (@I.nat .i64 y1.1.1)).1, (y17.1.1, (@rdL S_api_Poster Z_S_api_Poster (@appL S_api_Poster [] x0.1.1) (@I.nat .i64 y1.1.1)).2.2))) (@I.nat .i64 y1.1.1)).1, ((@rdL S_api_Poster Z_S_api_Poster (@setL S_api_Poster (@appL S_api_Poster [] x0.1.1) (@I.nat .i64 y1.1.1) ((@rdL S_api_Poster Z_S_api_Poster (@appL S_api_Poster [] x0.1.1) (@I.nat .i64 y1.1.1)).1, (y17.1.1, (@rdL S_api_Poster Z_S_api_Poster (@appL S_api_Poster [] x0.1.1) (@I.nat .i64 y1.1.1)).2.2))) (@I.nat .i64 y1.1.1)).2.1, (y18.1.1, (@rdL S_api_Poster Z_S_api_Poster (@setL S_api_Poster (@appL S_api_Poster [] x0.1.1) (@I.nat .i64 y1.1.1) ((@rdL S_api_Poster Z_S_api_Poster (@appL S_api_Poster [] x0.1.1) (@I.nat .i64 y1.1.1)).1, (y17.1.1, (@rdL S_api_Poster Z_S_api_Poster (@appL S_api_Poster [] x0.1.1) (@I.nat .i64 y1.1.1)).2.2))) (@I.nat .i64 y1.1.1)).2.2.2)))) (@I.nat .i64 y1.1.1)).2.2.1, (y19.1.1, (@rdL S_api_Poster Z_S_api_Poster (@setL S_api_Poster (@setL S_api_Poster (@appL S_api_Poster [] x0.1.1) (@I.nat .i64 y1.1.1) ((@rdL S_api_Poster Z_S_api_Poster (@appL S_api_Poster [] x0.1.1) (@I.nat .i64 y1.1.1)).1, (y17.1.1, (@rdL S_api_Poster Z_S_api_Poster (@appL S_api_Poster [] x0.1.1) (@I.nat .i64 y1.1.1)).2.2))) (@I.nat .i64 y1.1.1) ((@rdL S_api_Poster Z_S_api_Poster (@setL S_api_Poster (@appL S_api_Poster [] x0.1.1) (@I.nat .i64 y1.1.1) ((@rdL S_api_Poster Z_S_api_Poster (@appL S_api_Poster [] x0.1.1) (@I.nat .i64 y1.1.1)).1, (y17.1.1, (@rdL S_api_Poster Z_S_api_Poster (@appL S_api_Poster [] x0.1.1) (@I.nat .i64 y1.1.1)).2.2))) (@I.nat .i64 y1.1.1)).1, ((@rdL S_api_Poster Z_S_api_Poster (@setL S_api_Poster (@appL S_api_Poster [] x0.1.1) (@I.nat .i64 y1.1.1) ((@rdL S_api_Poster Z_S_api_Poster (@appL S_api_Poster [] x0.1.1) (@I.nat .i64 y1.1.1)).1, (y17.1.1, (@rdL S_api_Poster Z_S_api_Poster (@appL S_api_Poster [] x0.1.1) (@I.nat .i64 y1.1.1)).2.2))) (@I.nat .i64 y1.1.1)).2.1, (y18.1.1, (@rdL S_api_Poster Z_S_api_Poster (@setL S_api_Poster (@appL S_api_Poster [] x0.1.1) (@I.nat .i64 y1.1.1) ((@rdL S_api_Poster Z_S_api_Poster (@appL S_api_Poster [] x0.1.1) (@I.nat .i64 y1.1.1)).1, (y17.1.1, (@rdL S_api_Poster Z_S_api_Poster (@appL S_api_Poster [] x0.1.1) (@I.nat .i64 y1.1.1)).2.2))) (@I.nat .i64 y1.1.1)).2.2.2)))) (@I.nat .i64 y1.1.1)).2.2.2.2))))), ((I.of .i64 0), ())), ()))))))
      (none))
     (none))) fun j0 =>
 optF (none) (pontageref16_Valid K ((a, ()), ())) fun y1 =>
 brn (bnot y1.1.1)
  (some (([], ((I.of .i64 2), ())), ()))
  (brn (@I.eqb .u64 e (I.of .u64 0))
   (some (([], ((I.of .i64 2), ())), ()))
   (j0 ((a, (b, (e, ()))), (c, (d, ())))))
noncomputable def pontageref20_Plan (K : Nat) (x : (⟨[.pl (.sl (.cons (.int .u64) (.cons (.arr 4 (.int .u64)) (.cons (.arr 4 (.int .u64)) (.cons (.arr 4 (.int .u64)) (.cons (.arr 4 (.int .u64)) (.cons (.int .u64) .nil))))))), .pl (.arr 4 (.int .u64))], []⟩ : Tm).D) : Option (⟨[.pl (.sl (.cons (.int .u64) (.cons (.arr 4 (.int .u64)) .nil))), .pl (.int .i64)], []⟩ : Tm).D :=
 let a : (List S_api_Poster) := x.1.1
 let b : U := x.1.2.1
 optF (none) (pontageref16_Valid K ((a, ()), ())) fun y0 =>
 brn (bnot y0.1.1)
  (some (([], ((I.of .i64 2), ())), ()))
  (optF (none) (pontageref17_Sorted K ((a, ()), ())) fun y1 =>
  optF (none) (pontageref1_FromUint256 K ((b, ()), ())) fun y2 =>
  iter (none) (fun x3 =>
    jn (fun (x4 : (((List S_api_Poster) × ((List (I .i64)) × ((I .i64) × ((List (I .i64)) × ((I .i64) × (Bool × Unit)))))) × ((List S_api_Payment) × Unit))) =>
      brn (@inB .i64 x4.1.2.2.1 (@lenL S_api_Poster x4.1.1))
       (optF (.done (none)) (pontageref1_FromUint256 K (((@rdL S_api_Poster Z_S_api_Poster x4.1.1 (@I.nat .i64 x4.1.2.2.1)).2.1, ()), ())) fun y5 =>
       optF (.done (none)) (pontageref1_Min K ((x4.1.2.1, (y5.1.1, ())), ())) fun y6 =>
       brn (@inB .i64 x4.1.2.2.1 (@lenL S_api_Poster x4.1.1))
        (optF (.done (none)) (pontageref1_ToUint256 K ((y6.1.1, ()), ())) fun y7 =>
        brn (fitsLen (@lenL S_api_Payment (@appL S_api_Payment x4.2.1 (((@rdL S_api_Poster Z_S_api_Poster x4.1.1 (@I.nat .i64 x4.1.2.2.1)).1, (y7.1.1, ())) :: []))))
         (optF (.done (none)) (pontageref1_Sub K ((x4.1.2.1, (y6.1.1, ())), ())) fun y8 =>
         .again ((x4.1.1, (y8.1.1, ((@I.add .i64 x4.1.2.2.1 (I.of .i64 1)), ()))), ((@appL S_api_Payment x4.2.1 (((@rdL S_api_Poster Z_S_api_Poster x4.1.1 (@I.nat .i64 x4.1.2.2.1)).1, (y7.1.1, ())) :: [])), ())))
         (.done (none)))
        (.done (none)))
       (.done (none))) fun j4 =>
    brn (@I.ltb .i64 x3.1.2.2.1 (I.ofNat .i64 (@lenL S_api_Poster x3.1.1)))
     (brn (@I.ltb .i64 (I.of .i64 0) (I.ofNat .i64 (@lenL (I .i64) x3.1.2.1)))
      (j4 ((x3.1.1, (x3.1.2.1, (x3.1.2.2.1, (x3.1.2.1, ((I.ofNat .i64 (@lenL (I .i64) x3.1.2.1)), ((@I.ltb .i64 (I.of .i64 0) (I.ofNat .i64 (@lenL (I .i64) x3.1.2.1))), ())))))), (x3.2.1, ())))
      (.done (some ((x3.2.1, ((I.of .i64 0), ())), ()))))
     (.done (some ((x3.2.1, ((I.of .i64 0), ())), ()))))
  K ((y1.1.1, (y2.1.1, ((I.of .i64 0), ()))), ([], ())))
noncomputable def pontageref20_Sum (K : Nat) (x : (⟨[.pl (.sl (.cons (.int .u64) (.cons (.arr 4 (.int .u64)) .nil)))], []⟩ : Tm).D) : Option (⟨[.pl (.arr 4 (.int .u64)), .pl (.int .i64)], []⟩ : Tm).D :=
 let a : (List S_api_Payment) := x.1.1
 iter (none) (fun x0 =>
   brn (@I.ltb .i64 x0.1.2.2.1 (I.ofNat .i64 (@lenL S_api_Payment x0.1.1)))
    (brn (@inB .i64 x0.1.2.2.1 (@lenL S_api_Payment x0.1.1))
     (optF (.done (none)) (pontageref1_FromUint256 K (((@rdL S_api_Payment Z_S_api_Payment x0.1.1 (@I.nat .i64 x0.1.2.2.1)).2.1, ()), ())) fun y1 =>
     optF (.done (none)) (pontageref1_Add K ((x0.1.2.1, (y1.1.1, ())), ())) fun y2 =>
     .again ((x0.1.1, (y2.1.1, ((@I.add .i64 x0.1.2.2.1 (I.of .i64 1)), ()))), (x0.2.1, ())))
     (.done (none)))
    (.done (optF (none) (pontageref1_Checked K ((x0.1.2.1, ()), ())) fun y1 =>
    some ((y1.1.1, (y1.1.2.1, ())), ()))))
 K ((a, ([], ((I.of .i64 0), ()))), (Z_U, ()))
noncomputable def pontageref20_Apply (K : Nat) (x : (⟨[.pl (.sl (.cons (.int .u64) (.cons (.arr 4 (.int .u64)) (.cons (.arr 4 (.int .u64)) (.cons (.arr 4 (.int .u64)) (.cons (.arr 4 (.int .u64)) (.cons (.int .u64) .nil))))))), .pl (.sl (.cons (.int .u64) (.cons (.arr 4 (.int .u64)) .nil)))], []⟩ : Tm).D) : Option (⟨[.pl (.sl (.cons (.int .u64) (.cons (.arr 4 (.int .u64)) (.cons (.arr 4 (.int .u64)) (.cons (.arr 4 (.int .u64)) (.cons (.arr 4 (.int .u64)) (.cons (.int .u64) .nil))))))), .pl (.int .i64)], []⟩ : Tm).D :=
 let a : (List S_api_Poster) := x.1.1
 let b : (List S_api_Payment) := x.1.2.1
 brn (fitsLen (@lenL S_api_Poster (@appL S_api_Poster [] a)))
  (iter (none) (fun x0 =>
    brn (@I.ltb .i64 x0.1.2.2.1 (I.ofNat .i64 (@lenL S_api_Payment x0.1.1)))
     (brn (@inB .i64 x0.1.2.2.1 (@lenL S_api_Payment x0.1.1))
      (brn (@inB .i64 x0.1.2.2.1 (@lenL S_api_Payment x0.1.1))
       (optF (.done (none)) (pontageref16_Settle K ((x0.1.2.1, ((@rdL S_api_Payment Z_S_api_Payment x0.1.1 (@I.nat .i64 x0.1.2.2.1)).1, ((@rdL S_api_Payment Z_S_api_Payment x0.1.1 (@I.nat .i64 x0.1.2.2.1)).2.1, ()))), ())) fun y1 =>
       brn (@I.neb .i64 y1.1.2.1 (I.of .i64 0))
        (.done (some (([], (y1.1.2.1, ())), ())))
        (.again ((x0.1.1, (y1.1.1, ((@I.add .i64 x0.1.2.2.1 (I.of .i64 1)), ()))), ())))
       (.done (none)))
      (.done (none)))
     (.done (some ((x0.1.2.1, ((I.of .i64 0), ())), ()))))
  K ((b, ((@appL S_api_Poster [] a), ((I.of .i64 0), ()))), ()))
  (none)
end Sym

/- slices.Insert at a slice of posters, as a plain function. -/
namespace Sym
open Go
end Sym

/- The given functions as plain functions, as the printer told them. -/
namespace Sym
open Go
abbrev S_api_Int256 : Type := Bool × (U × Unit)
noncomputable abbrev Z_S_api_Int256 : S_api_Int256 := (false, (Z_U, ()))
abbrev S_api_Report : Type := (I .u64) × S_api_Payment
abbrev S_api_Params : Type := (I .u64) × ((I .u64) × ((I .u64) × (U × ((I .u64) × (U × ((I .u64) × (U × U)))))))
noncomputable abbrev Z_S_api_Params : S_api_Params := ((I.of .u64 0), ((I.of .u64 0), ((I.of .u64 0), (Z_U, ((I.of .u64 0), (Z_U, ((I.of .u64 0), (Z_U, Z_U))))))))
abbrev S_api_Pricer : Type := U × ((I .u64) × ((I .u64) × ((I .u64) × (S_api_Int256 × ((List S_api_Poster) × Unit)))))
abbrev Y_api_Int256 : Ty := .cons .bool (.cons u256 .nil)
abbrev Y_api_Payment : Ty := .cons (.int .u64) (.cons u256 .nil)
abbrev Y_api_Report : Ty := .cons (.int .u64) Y_api_Payment
abbrev Y_runtime_boundsError : Ty := .cons (.int .i64) (.cons (.int .i64) (.cons .bool (.cons (.int .u8) .nil)))
abbrev Y_pricer_Outcome : Ty := .cons (.int .u64) (.cons u256 (.cons (.sl Y_api_Payment) .nil))
abbrev Y_api_Poster : Ty := .cons (.int .u64) (.cons u256 (.cons u256 (.cons u256 (.cons u256 (.cons (.int .u64) .nil)))))
abbrev Y_api_Params : Ty := .cons (.int .u64) (.cons (.int .u64) (.cons (.int .u64) (.cons u256 (.cons (.int .u64) (.cons u256 (.cons (.int .u64) (.cons u256 (.cons (.int .u64) (.cons (.int .u64) (.cons (.int .u64) (.cons (.int .u64) .nil)))))))))))
abbrev Y_api_Pricer : Ty := .cons u256 (.cons (.int .u64) (.cons (.int .u64) (.cons (.int .u64) (.cons Y_api_Int256 (.cons (.sl Y_api_Poster) .nil)))))
end Sym

/- The given functions as plain functions, as the printer told them. -/
namespace Sym
open Go
abbrev S_pontageref21_Outcome : Type := (I .u64) × (U × ((List S_api_Payment) × Unit))
abbrev Y_pontageref3_SignedBig : Ty := .cons .bool (.cons (.sl (.int .i64)) .nil)
noncomputable def pontageref21_Valid (K : Nat) (x : (⟨[.pl Y_api_Pricer], []⟩ : Tm).D) : Option (⟨[.pl .bool], []⟩ : Tm).D :=
 let a : S_api_Pricer := x.1.1
 jn (fun (x0 : (Unit × (S_api_Pricer × Unit))) =>
   iter (none) (fun x1 =>
     brn (@I.ltb .i64 x1.1.1 (I.ofNat .i64 (@lenL S_api_Poster x1.2.1.2.2.2.2.2.1)))
      (brn (@inB .i64 x1.1.1 (@lenL S_api_Poster x1.2.1.2.2.2.2.2.1))
       (brn (@I.ltb .u64 x1.2.1.2.2.2.1 (@rdL S_api_Poster Z_S_api_Poster x1.2.1.2.2.2.2.2.1 (@I.nat .i64 x1.1.1)).2.2.2.2.2.1)
        (.done (some ((false, ()), ())))
        (.again (((@I.add .i64 x1.1.1 (I.of .i64 1)), ()), (x1.2.1, ()))))
       (.done (none)))
      (.done (some ((true, ()), ()))))
   K (((I.of .i64 0), ()), (x0.2.1, ()))) fun j0 =>
 optF (none) (pontageref16_Valid K ((a.2.2.2.2.2.1, ()), ())) fun y1 =>
 brn (bnot y1.1.1)
  (some ((false, ()), ()))
  (optF (none) (pontageref3_Valid K ((a.2.2.2.2.1, ()), ())) fun y2 =>
  brn (bnot y2.1.1)
   (some ((false, ()), ()))
   (j0 ((), (a, ()))))
noncomputable def pontageref21_AddPoster (K : Nat) (x : (⟨[.pl Y_api_Pricer, .pl (.int .u64)], []⟩ : Tm).D) : Option (⟨[.pl Y_api_Pricer, .pl (.int .i64)], []⟩ : Tm).D :=
 let a : S_api_Pricer := x.1.1
 let b : (I .u64) := x.1.2.1
 optF (none) (pontageref21_Valid K ((a, ()), ())) fun y0 =>
 brn (bnot y0.1.1)
  (some (((Z_U, ((I.of .u64 0), ((I.of .u64 0), ((I.of .u64 0), (Z_S_api_Int256, ([], ())))))), ((I.of .i64 2), ())), ()))
  (optF (none) (pontageref16_Add K ((a.2.2.2.2.2.1, (b, ())), ())) fun y1 =>
  brn (@I.neb .i64 y1.1.2.1 (I.of .i64 0))
   (some (((Z_U, ((I.of .u64 0), ((I.of .u64 0), ((I.of .u64 0), (Z_S_api_Int256, ([], ())))))), (y1.1.2.1, ())), ()))
   (some (((a.1, (a.2.1, (a.2.2.1, (a.2.2.2.1, (a.2.2.2.2.1, (y1.1.1, a.2.2.2.2.2.2)))))), ((I.of .i64 0), ())), ())))
noncomputable def pontageref21_AddUnits (K : Nat) (x : (⟨[.pl Y_api_Pricer, .pl (.int .u64)], []⟩ : Tm).D) : Option (⟨[.pl Y_api_Pricer, .pl (.int .i64)], []⟩ : Tm).D :=
 let a : S_api_Pricer := x.1.1
 let b : (I .u64) := x.1.2.1
 optF (none) (pontageref21_Valid K ((a, ()), ())) fun y0 =>
 brn (bnot y0.1.1)
  (some (((Z_U, ((I.of .u64 0), ((I.of .u64 0), ((I.of .u64 0), (Z_S_api_Int256, ([], ())))))), ((I.of .i64 2), ())), ()))
  (brn (@I.ltb .u64 (@I.add .u64 a.2.1 b) b)
   (some (((Z_U, ((I.of .u64 0), ((I.of .u64 0), ((I.of .u64 0), (Z_S_api_Int256, ([], ())))))), ((I.of .i64 4), ())), ()))
   (brn (fitsLen (@lenL S_api_Poster (@appL S_api_Poster [] a.2.2.2.2.2.1)))
    (some (((a.1, ((@I.add .u64 a.2.1 b), (a.2.2.1, (a.2.2.2.1, (a.2.2.2.2.1, ((@appL S_api_Poster [] a.2.2.2.2.2.1), a.2.2.2.2.2.2)))))), ((I.of .i64 0), ())), ()))
    (none)))
noncomputable def pontageref1_BitLen (K : Nat) (x : (⟨[.pl u256], []⟩ : Tm).D) : Option (⟨[.pl (.int .i64)], []⟩ : Tm).D :=
 let a : U := x.1.1
 iter (none) (fun x0 =>
   brn (@I.ltb .i64 x0.1.2.1 (I.of .i64 256))
    (brn (@inB .i64 (@I.quo .i64 x0.1.2.1 (I.of .i64 64)) 4)
     (brn (@I.nn .u64 (I.conv (k := .i64) .u64 (@I.rem .i64 x0.1.2.1 (I.of .i64 64))))
      (brn (@I.eqb .u64 (@I.and .u64 (@I.shr .u64 .u64 (@Arr.sel (I .u64) (I.of .u64 0) 4 x0.2.1 (@I.nat .i64 (@I.quo .i64 x0.1.2.1 (I.of .i64 64)))) (I.conv (k := .i64) .u64 (@I.rem .i64 x0.1.2.1 (I.of .i64 64)))) (I.of .u64 1)) (I.of .u64 1))
       (.again (((@I.add .i64 x0.1.2.1 (I.of .i64 1)), ((@I.add .i64 x0.1.2.1 (I.of .i64 1)), ())), (x0.2.1, ())))
       (.again ((x0.1.1, ((@I.add .i64 x0.1.2.1 (I.of .i64 1)), ())), (x0.2.1, ()))))
      (.done (none)))
     (.done (none)))
    (.done (some ((x0.1.1, ()), ()))))
 K (((I.of .i64 0), ((I.of .i64 0), ())), (a, ()))
noncomputable def pontageref21_check (K : Nat) (x : (⟨[.pl Y_api_Pricer, .pl Y_api_Params, .pl Y_api_Report, .pl (.int .u64)], []⟩ : Tm).D) : Option (⟨[.pl (.int .i64)], []⟩ : Tm).D :=
 let a : S_api_Pricer := x.1.1
 let b : S_api_Params := x.1.2.1
 let c : S_api_Report := x.1.2.2.1
 let d : (I .u64) := x.1.2.2.2.1
 optF (none) (pontageref21_Valid K ((a, ()), ())) fun y0 =>
 brn (bnot y0.1.1)
  (some (((I.of .i64 2), ()), ()))
  (optF (none) (pontageref12_Valid K ((b, ()), ())) fun y1 =>
  brn (bnot y1.1.1)
   (some (((I.of .i64 15), ()), ()))
   (optF (none) (pontageref16_Find K ((a.2.2.2.2.2.1, (c.1, ())), ())) fun y2 =>
   brn (@I.ltb .i64 y2.1.1 (I.of .i64 0))
    (some (((I.of .i64 8), ()), ()))
    (jn (fun (x3 : (Unit × (S_api_Report × Unit))) =>
      optF (none) (pontageref1_BitLen K ((x3.2.1.2.2.1, ()), ())) fun y4 =>
      brn (@I.ltb .i64 (I.of .i64 128) y4.1.1)
       (some (((I.of .i64 2), ()), ()))
       (some (((I.of .i64 0), ()), ()))) fun j3 =>
    brn (@I.ltb .u64 c.2.1 a.2.2.1)
     (some (((I.of .i64 14), ()), ()))
     (brn (@I.ltb .u64 d c.2.1)
      (some (((I.of .i64 14), ()), ()))
      (j3 ((), (c, ())))))))
noncomputable def pontageref18_Allocate (K : Nat) (x : (⟨[.pl (.int .u64), .pl (.int .u64), .pl (.int .u64), .pl (.int .u64)], []⟩ : Tm).D) : Option (⟨[.pl (.int .u64), .pl (.int .i64)], []⟩ : Tm).D :=
 let a : (I .u64) := x.1.1
 let b : (I .u64) := x.1.2.1
 let c : (I .u64) := x.1.2.2.1
 let d : (I .u64) := x.1.2.2.2.1
 jn (fun (x0 : (U × Unit)) =>
   brn (@I.eqb .u64 x0.1.2.2.2.1 x0.1.2.1)
    (some ((x0.1.1, ((I.of .i64 0), ())), ()))
    (optF (none) (pontageref1_FromUint64 K ((x0.1.1, ()), ())) fun y1 =>
    optF (none) (pontageref1_FromUint64 K (((@I.sub .u64 x0.1.2.2.1 x0.1.2.1), ()), ())) fun y2 =>
    optF (none) (pontageref1_Mul K ((y1.1.1, (y2.1.1, ())), ())) fun y3 =>
    optF (none) (pontageref1_FromUint64 K (((@I.sub .u64 x0.1.2.2.2.1 x0.1.2.1), ()), ())) fun y4 =>
    optF (none) (pontageref1_Div K ((y3.1.1, (y4.1.1, ())), ())) fun y5 =>
    optF (none) (pontageref1_ToUint256 K ((y5.1.1, ()), ())) fun y6 =>
    some ((y6.1.1.1, ((I.of .i64 0), ())), ()))) fun j0 =>
 brn (@I.ltb .u64 c b)
  (some (((I.of .u64 0), ((I.of .i64 14), ())), ()))
  (brn (@I.ltb .u64 d c)
   (some (((I.of .u64 0), ((I.of .i64 14), ())), ()))
   (j0 ((a, (b, (c, (d, ())))), ())))
noncomputable def pontageref1_Mul256 (K : Nat) (x : (⟨[.pl u256, .pl u256], []⟩ : Tm).D) : Option (⟨[.pl u256, .pl (.int .i64)], []⟩ : Tm).D :=
 let a : U := x.1.1
 let b : U := x.1.2.1
 optF (none) (pontageref1_FromUint256 K ((a, ()), ())) fun y0 =>
 optF (none) (pontageref1_FromUint256 K ((b, ()), ())) fun y1 =>
 optF (none) (pontageref1_Mul K ((y0.1.1, (y1.1.1, ())), ())) fun y2 =>
 optF (none) (pontageref1_Checked K ((y2.1.1, ()), ())) fun y3 =>
 some ((y3.1.1, (y3.1.2.1, ())), ())
noncomputable def pontageref16_TotalDue (K : Nat) (x : (⟨[.pl (.sl Y_api_Poster)], []⟩ : Tm).D) : Option (⟨[.pl u256, .pl (.int .i64)], []⟩ : Tm).D :=
 let a : (List S_api_Poster) := x.1.1
 optF (none) (pontageref16_Valid K ((a, ()), ())) fun y0 =>
 brn (bnot y0.1.1)
  (some ((Z_U, ((I.of .i64 2), ())), ()))
  (iter (none) (fun x1 =>
    brn (@I.ltb .i64 x1.1.2.2.1 (I.ofNat .i64 (@lenL S_api_Poster x1.1.1)))
     (brn (@inB .i64 x1.1.2.2.1 (@lenL S_api_Poster x1.1.1))
      (optF (.done (none)) (pontageref1_FromUint256 K (((@rdL S_api_Poster Z_S_api_Poster x1.1.1 (@I.nat .i64 x1.1.2.2.1)).2.1, ()), ())) fun y2 =>
      optF (.done (none)) (pontageref1_Add K ((x1.1.2.1, (y2.1.1, ())), ())) fun y3 =>
      .again ((x1.1.1, (y3.1.1, ((@I.add .i64 x1.1.2.2.1 (I.of .i64 1)), ()))), (x1.2.1, ())))
      (.done (none)))
     (.done (optF (none) (pontageref1_Checked K ((x1.1.2.1, ()), ())) fun y2 =>
     some ((y2.1.1, (y2.1.2.1, ())), ()))))
  K ((a, ([], ((I.of .i64 0), ()))), (Z_U, ())))
noncomputable def pontageref21_Report (K : Nat) (x : (⟨[.pl Y_api_Pricer, .pl Y_api_Params, .pl u256, .pl Y_api_Report, .pl (.int .u64)], []⟩ : Tm).D) : Option (⟨[.pl Y_api_Pricer, .pl Y_pricer_Outcome, .pl (.int .i64)], []⟩ : Tm).D :=
 let a : S_api_Pricer := x.1.1
 let b : S_api_Params := x.1.2.1
 let c : U := x.1.2.2.1
 let d : S_api_Report := x.1.2.2.2.1
 let e : (I .u64) := x.1.2.2.2.2.1
 optF (none) (pontageref21_check K ((a, (b, (d, (e, ())))), ())) fun y0 =>
 brn (@I.neb .i64 y0.1.1 (I.of .i64 0))
  (some (((Z_U, ((I.of .u64 0), ((I.of .u64 0), ((I.of .u64 0), (Z_S_api_Int256, ([], ())))))), (((I.of .u64 0), (Z_U, ([], ()))), (y0.1.1, ()))), ()))
  (optF (none) (pontageref18_Allocate K ((a.2.1, (a.2.2.1, (d.2.1, (e, ())))), ())) fun y1 =>
  optF (none) (pontageref1_Mul256 K ((b.2.2.2.2.2.2.2.1, ((y1.1.1, ((I.of .u64 0), ((I.of .u64 0), ((I.of .u64 0), ())))), ())), ())) fun y2 =>
  jn (fun (x3 : (Unit × (S_api_Pricer × (S_api_Params × (U × (S_api_Report × (S_api_Pricer × (S_pontageref21_Outcome × (S_pontageref21_Outcome × (U × Unit)))))))))) =>
    optF (none) (pontageref16_Accrue K ((x3.2.1.2.2.2.2.2.1, (x3.2.2.2.2.1.1, (x3.2.2.2.2.1.2.2.1, (x3.2.2.2.2.2.2.2.2.1, ((@I.add .u64 x3.2.1.2.2.2.1 (I.of .u64 1)), ()))))), ())) fun y4 =>
    brn (@I.neb .i64 y4.1.2.1 (I.of .i64 0))
     (some (((Z_U, ((I.of .u64 0), ((I.of .u64 0), ((I.of .u64 0), (Z_S_api_Int256, ([], ())))))), (((I.of .u64 0), (Z_U, ([], ()))), ((I.of .i64 4), ()))), ()))
     (optF (none) (pontageref20_Plan K ((y4.1.1, (x3.2.2.2.1, ())), ())) fun y5 =>
     optF (none) (pontageref20_Apply K ((y4.1.1, (y5.1.1, ())), ())) fun y6 =>
     brn (@I.neb .i64 y6.1.2.1 (I.of .i64 0))
      (some (((Z_U, ((I.of .u64 0), ((I.of .u64 0), ((I.of .u64 0), (Z_S_api_Int256, ([], ())))))), (((I.of .u64 0), (Z_U, ([], ()))), ((I.of .i64 4), ()))), ()))
      (optF (none) (pontageref20_Sum K ((y5.1.1, ()), ())) fun y7 =>
      optF (none) (pontageref1_Sub256 K ((x3.2.2.2.1, (y7.1.1, ())), ())) fun y8 =>
      optF (none) (pontageref16_TotalDue K ((y6.1.1, ()), ())) fun y9 =>
      brn (@I.neb .i64 y9.1.2.1 (I.of .i64 0))
       (some (((Z_U, ((I.of .u64 0), ((I.of .u64 0), ((I.of .u64 0), (Z_S_api_Int256, ([], ())))))), (((I.of .u64 0), (Z_U, ([], ()))), ((I.of .i64 4), ()))), ()))
       (optF (none) (pontageref3_Diff K ((y8.1.1, (y9.1.1, ())), ())) fun y10 =>
       jn (fun (x11 : (((List S_api_Poster) × Unit) × (S_api_Pricer × (S_api_Report × (S_api_Pricer × (S_pontageref21_Outcome × (S_pontageref21_Outcome × Unit))))))) =>
         some (((x11.2.1.1, ((@I.sub .u64 x11.2.1.2.1 x11.2.2.2.2.2.1.1), (x11.2.2.1.2.1, (x11.2.1.2.2.2.1, (x11.2.1.2.2.2.2.1, (x11.1.1, x11.2.1.2.2.2.2.2.2)))))), (x11.2.2.2.2.2.1, ((I.of .i64 0), ()))), ())) fun j11 =>
       brn (@I.ltb .u64 (I.of .u64 0) x3.2.2.2.2.2.2.2.1.1)
        (optF (none) (pontageref19_Next K ((x3.2.1.1, (y10.1.1, (x3.2.1.2.2.2.2.1, (x3.2.2.2.2.2.2.2.1.1, (x3.2.2.1, ()))))), ())) fun y12 =>
        brn (@I.neb .i64 y12.1.2.1 (I.of .i64 0))
         (some (((Z_U, ((I.of .u64 0), ((I.of .u64 0), ((I.of .u64 0), (Z_S_api_Int256, ([], ())))))), (((I.of .u64 0), (Z_U, ([], ()))), ((I.of .i64 4), ()))), ()))
         (j11 ((y6.1.1, ()), ((y12.1.1, (x3.2.1.2.1, (x3.2.1.2.2.1, ((@I.add .u64 x3.2.1.2.2.2.1 (I.of .u64 1)), (y10.1.1, x3.2.1.2.2.2.2.2))))), (x3.2.2.2.2.1, (x3.2.2.2.2.2.1, (x3.2.2.2.2.2.2.1, ((x3.2.2.2.2.2.2.2.1.1, (x3.2.2.2.2.2.2.2.1.2.1, (y5.1.1, x3.2.2.2.2.2.2.2.1.2.2.2))), ()))))))))
        (j11 ((y6.1.1, ()), ((x3.2.1.1, (x3.2.1.2.1, (x3.2.1.2.2.1, ((@I.add .u64 x3.2.1.2.2.2.1 (I.of .u64 1)), x3.2.1.2.2.2.2)))), (x3.2.2.2.2.1, (x3.2.2.2.2.2.1, (x3.2.2.2.2.2.2.1, ((x3.2.2.2.2.2.2.2.1.1, (x3.2.2.2.2.2.2.2.1.2.1, (y5.1.1, x3.2.2.2.2.2.2.2.1.2.2.2))), ()))))))))))) fun j3 =>
  brn (@I.neb .i64 y2.1.2.1 (I.of .i64 0))
   (some (((Z_U, ((I.of .u64 0), ((I.of .u64 0), ((I.of .u64 0), (Z_S_api_Int256, ([], ())))))), (((I.of .u64 0), (Z_U, ([], ()))), ((I.of .i64 4), ()))), ()))
   (brn (@I.eqb .u64 (@I.add .u64 a.2.2.2.1 (I.of .u64 1)) (I.of .u64 0))
    (some (((Z_U, ((I.of .u64 0), ((I.of .u64 0), ((I.of .u64 0), (Z_S_api_Int256, ([], ())))))), (((I.of .u64 0), (Z_U, ([], ()))), ((I.of .i64 4), ()))), ()))
    (j3 ((), (a, (b, (c, (d, ((Z_U, ((I.of .u64 0), ((I.of .u64 0), ((I.of .u64 0), (Z_S_api_Int256, ([], ())))))), (((I.of .u64 0), (Z_U, ([], ()))), ((y1.1.1, (y2.1.1, ([], ()))), (y2.1.1, ()))))))))))))
noncomputable def pontageref21_Genesis (K : Nat) (x : (⟨[], []⟩ : Tm).D) : Option (⟨[.pl Y_api_Pricer], []⟩ : Tm).D :=
 some (((((I.of .u64 1000000000), ((I.of .u64 0), ((I.of .u64 0), ((I.of .u64 0), ())))), ((I.of .u64 0), ((I.of .u64 0), ((I.of .u64 0), (Z_S_api_Int256, ([], ())))))), ()), ())
end Sym
