/- The given functions as plain functions, as the printer told them. -/
import Derived.Test.YthnlgkfeopoohaaProg
import Derived.Carry
import Derived.SizedLaws
import Derived.ChangeOld
import Derived.OpenShut
import Derived.Test.YthnlgkfeopoohaaPart2
namespace Sym
open Go

/-- pontage/uint256.Min -/
noncomputable def uint256_Min (x : (⟨[.pl (.arr 4 (.int .u64)), .pl (.sl (.arr 4 (.int .u64)))], []⟩ : Tm).D) : Option (⟨[.pl (.arr 4 (.int .u64))], []⟩ : Tm).D :=
 let a : (I .u64) × (I .u64) × (I .u64) × (I .u64) × Unit := x.1.1
 let b : List ((I .u64) × (I .u64) × (I .u64) × (I .u64) × Unit) := x.1.2.1
 iter (none) (fun x0 =>
   brn (@I.ltb .i64 x0.1.2.2.1 x0.1.2.1)
    (brn (@inB .i64 x0.1.2.2.1 (@lenL ((I .u64) × ((I .u64) × ((I .u64) × ((I .u64) × Unit)))) x0.1.1))
     (optF (.done (none)) (uint256_Cmp (((@rdL ((I .u64) × ((I .u64) × ((I .u64) × ((I .u64) × Unit)))) ((I.of .u64 0), ((I.of .u64 0), ((I.of .u64 0), ((I.of .u64 0), ())))) x0.1.1 (@I.nat .i64 x0.1.2.2.1)), (x0.2.1, ())), ())) fun y1 =>
     brn (@I.ltb .i64 y1.1.1 (I.of .i64 0))
      (.again ((x0.1.1, (x0.1.2.1, ((@I.add .i64 x0.1.2.2.1 (I.of .i64 1)), ()))), ((@rdL ((I .u64) × ((I .u64) × ((I .u64) × ((I .u64) × Unit)))) ((I.of .u64 0), ((I.of .u64 0), ((I.of .u64 0), ((I.of .u64 0), ())))) x0.1.1 (@I.nat .i64 x0.1.2.2.1)), (x0.2.2.1, ()))))
      (.again ((x0.1.1, (x0.1.2.1, ((@I.add .i64 x0.1.2.2.1 (I.of .i64 1)), ()))), (x0.2.1, (x0.2.2.1, ())))))
     (.done (none)))
    (.done (some ((x0.2.1, ()), ()))))
 K0 ((b, ((I.ofNat .i64 (@lenL ((I .u64) × ((I .u64) × ((I .u64) × ((I .u64) × Unit)))) b)), ((I.of .i64 0), ()))), (a, (((I.of .u64 0), ((I.of .u64 0), ((I.of .u64 0), ((I.of .u64 0), ())))), ())))

/-- pontage/txfee.GasPrice -/
noncomputable def txfee_GasPrice (x : (⟨[.pl (.cons (.int .u64) (.cons (.int .u64) (.cons (.int .u64) (.cons (.arr 4 (.int .u64)) (.cons (.int .u64) (.cons (.arr 4 (.int .u64)) (.cons (.arr 4 (.int .u64)) (.cons (.int .u64) (.cons (.sl (.int .u8)) .nil))))))))), .pl (.arr 4 (.int .u64))], []⟩ : Tm).D) : Option (⟨[.pl (.arr 4 (.int .u64)), .pl (.int .i64)], []⟩ : Tm).D :=
 let a : (I .u64) × (I .u64) × (I .u64) × ((I .u64) × (I .u64) × (I .u64) × (I .u64) × Unit) × (I .u64) × ((I .u64) × (I .u64) × (I .u64) × (I .u64) × Unit) × ((I .u64) × (I .u64) × (I .u64) × (I .u64) × Unit) × (I .u64) × (List (I .u8)) × Unit := x.1.1
 let b : (I .u64) × (I .u64) × (I .u64) × (I .u64) × Unit := x.1.2.1
 optF (none) (uint256_Sub ((a.2.2.2.2.2.1, (b, ())), ())) fun y0 =>
 brn (@I.neb .i64 y0.1.2.1 (I.of .i64 0))
  (some ((((I.of .u64 0), ((I.of .u64 0), ((I.of .u64 0), ((I.of .u64 0), ())))), ((I.of .i64 12), ())), ()))
  (optF (none) (uint256_Min ((a.2.2.2.2.2.2.1, ((y0.1.1 :: []), ())), ())) fun y1 =>
  optF (none) (uint256_Add ((b, (y1.1.1, ())), ())) fun y2 =>
  some ((y2.1.1, (y2.1.2.1, ())), ()))

/-- pontage/pontagelaw23.awake -/
noncomputable def pontagelaw23_awake (x : (⟨[], []⟩ : Tm).D) : Option (⟨[.pl .bool], []⟩ : Tm).D :=
 optF (none) (txfee_GasPrice ((((I.of .u64 0), ((I.of .u64 0), ((I.of .u64 0), (((I.of .u64 0), ((I.of .u64 0), ((I.of .u64 0), ((I.of .u64 0), ())))), ((I.of .u64 0), (((I.of .u64 10), ((I.of .u64 0), ((I.of .u64 0), ((I.of .u64 0), ())))), (((I.of .u64 3), ((I.of .u64 0), ((I.of .u64 0), ((I.of .u64 0), ())))), ((I.of .u64 0), ([], ()))))))))), (((I.of .u64 8), ((I.of .u64 0), ((I.of .u64 0), ((I.of .u64 0), ())))), ())), ())) fun y0 =>
 optF (none) (txfee_GasPrice ((((I.of .u64 0), ((I.of .u64 0), ((I.of .u64 0), (((I.of .u64 0), ((I.of .u64 0), ((I.of .u64 0), ((I.of .u64 0), ())))), ((I.of .u64 0), (((I.of .u64 7), ((I.of .u64 0), ((I.of .u64 0), ((I.of .u64 0), ())))), (((I.of .u64 0), ((I.of .u64 0), ((I.of .u64 0), ((I.of .u64 0), ())))), ((I.of .u64 0), ([], ()))))))))), (((I.of .u64 8), ((I.of .u64 0), ((I.of .u64 0), ((I.of .u64 0), ())))), ())), ())) fun y1 =>
 brn (Ty.eqb (.arr 4 (.int .u64)) y0.1.1 ((I.of .u64 10), ((I.of .u64 0), ((I.of .u64 0), ((I.of .u64 0), ())))))
  (brn (@I.eqb .i64 y0.1.2.1 (I.of .i64 0))
   (some (((@I.eqb .i64 y1.1.2.1 (I.of .i64 12)), ()), ()))
   (some ((false, ()), ())))
  (some ((false, ()), ()))

/-- pontage/uint256.maxValue -/
noncomputable def uint256_maxValue (x : (⟨[], []⟩ : Tm).D) : Option (⟨[.pl (.arr 4 (.int .u64))], []⟩ : Tm).D :=
 some ((((I.of .u64 18446744073709551615), ((I.of .u64 18446744073709551615), ((I.of .u64 18446744073709551615), ((I.of .u64 18446744073709551615), ())))), ()), ())

/-- pontage/uint256.SaturatingAdd -/
noncomputable def uint256_SaturatingAdd (x : (⟨[.pl (.arr 4 (.int .u64)), .pl (.arr 4 (.int .u64))], []⟩ : Tm).D) : Option (⟨[.pl (.arr 4 (.int .u64))], []⟩ : Tm).D :=
 let a : (I .u64) × (I .u64) × (I .u64) × (I .u64) × Unit := x.1.1
 let b : (I .u64) × (I .u64) × (I .u64) × (I .u64) × Unit := x.1.2.1
 optF (none) (uint256_Add ((a, (b, ())), ())) fun y0 =>
 brn (@I.eqb .i64 y0.1.2.1 (I.of .i64 0))
  (some ((y0.1.1, ()), ()))
  (optF (none) (uint256_maxValue ((), ())) fun y1 =>
  some ((y1.1.1, ()), ()))

/-- pontage/pontagelaw0.Mod -/
noncomputable def pontagelaw0_Mod (x : (⟨[.pl (.int .i64), .pl (.int .i64)], []⟩ : Tm).D) : Option (⟨[.pl (.int .i64)], []⟩ : Tm).D :=
 let a : I .i64 := x.1.1
 let b : I .i64 := x.1.2.1
 brn (@I.nz .u64 (I.conv (k := .i64) .u64 b))
  (some (((I.conv (k := .u64) .i64 (@I.rem .u64 (I.conv (k := .i64) .u64 a) (I.conv (k := .i64) .u64 b))), ()), ()))
  (none)

/-- pontage/pontagelaw0.RepetitiveBytes -/
noncomputable def pontagelaw0_RepetitiveBytes (x : (⟨[.pl (.sl (.int .i64))], []⟩ : Tm).D) : Option (⟨[.pl (.sl (.int .u8))], []⟩ : Tm).D :=
 let a : List (I .i64) := x.1.1
 iter (none) (fun x0 =>
   brn (@I.ltb .i64 x0.1.2.1 (I.ofNat .i64 (@lenL (I .i64) x0.1.1)))
    (brn (@inB .i64 x0.1.2.1 (@lenL (I .i64) x0.1.1))
     (optF (.done (none)) (pontagelaw0_Mod (((@rdL (I .i64) (I.of .i64 0) x0.1.1 (@I.nat .i64 x0.1.2.1)), ((I.of .i64 1048576), ())), ())) fun y1 =>
     jn (fun (x2 : (((List (I .i64)) × ((I .i64) × ((I .i64) × ((I .i64) × ((I .i64) × (Bool × Unit)))))) × ((List (I .u8)) × Unit))) =>
       brn x2.1.2.2.2.2.2.1
        (iter (.done (none)) (fun x3 =>
          brn (@I.ltb .i64 x3.1.2.2.2.2.1 x3.1.2.2.2.1)
           (brn (fitsLen (@lenL (I .u8) (@appL (I .u8) x3.2.1 ((I.conv (k := .i64) .u8 (@I.add .i64 (I.of .i64 97) (@I.rem .i64 (@I.quo .i64 x3.1.2.2.1 (I.of .i64 256)) (I.of .i64 3)))) :: []))))
            (.again ((x3.1.1, (x3.1.2.1, (x3.1.2.2.1, (x3.1.2.2.2.1, ((@I.add .i64 x3.1.2.2.2.2.1 (I.of .i64 1)), ()))))), ((@appL (I .u8) x3.2.1 ((I.conv (k := .i64) .u8 (@I.add .i64 (I.of .i64 97) (@I.rem .i64 (@I.quo .i64 x3.1.2.2.1 (I.of .i64 256)) (I.of .i64 3)))) :: [])), ())))
            (.done (.done (none))))
           (.done (.again ((x3.1.1, ((@I.add .i64 x3.1.2.1 (I.of .i64 1)), ())), (x3.2.1, ())))))
        K0 ((x2.1.1, (x2.1.2.1, (x2.1.2.2.1, (x2.1.2.2.2.1, ((I.of .i64 0), ()))))), (x2.2.1, ())))
        (jn (fun (x3 : (((List (I .i64)) × ((I .i64) × ((I .i64) × ((I .i64) × (Bool × Unit))))) × ((List (I .u8)) × Unit))) =>
          brn x3.1.2.2.2.2.1
           (jn (fun (x4 : (((List (I .i64)) × ((I .i64) × ((I .i64) × ((I .i64) × Unit)))) × ((List (I .u8)) × Unit))) =>
             iter (.done (none)) (fun x5 =>
               brn (@I.ltb .i64 x5.1.2.2.2.2.1 x5.1.2.2.1)
                (brn (@I.ltb .i64 (@I.add .i64 x5.1.2.2.2.1 x5.1.2.2.2.2.1) (I.ofNat .i64 (@lenL (I .u8) x5.2.1)))
                 (brn (@inB .i64 (@I.add .i64 x5.1.2.2.2.1 x5.1.2.2.2.2.1) (@lenL (I .u8) x5.2.1))
                  (brn (fitsLen (@lenL (I .u8) (@appL (I .u8) x5.2.1 ((@rdL (I .u8) (I.of .u8 0) x5.2.1 (@I.nat .i64 (@I.add .i64 x5.1.2.2.2.1 x5.1.2.2.2.2.1))) :: []))))
                   (.again ((x5.1.1, (x5.1.2.1, (x5.1.2.2.1, (x5.1.2.2.2.1, ((@I.add .i64 x5.1.2.2.2.2.1 (I.of .i64 1)), ()))))), ((@appL (I .u8) x5.2.1 ((@rdL (I .u8) (I.of .u8 0) x5.2.1 (@I.nat .i64 (@I.add .i64 x5.1.2.2.2.1 x5.1.2.2.2.2.1))) :: [])), ())))
                   (.done (.done (none))))
                  (.done (.done (none))))
                 (.done (.again ((x5.1.1, ((@I.add .i64 x5.1.2.1 (I.of .i64 1)), ())), (x5.2.1, ())))))
                (.done (.again ((x5.1.1, ((@I.add .i64 x5.1.2.1 (I.of .i64 1)), ())), (x5.2.1, ())))))
             K0 ((x4.1.1, (x4.1.2.1, (x4.1.2.2.1, (x4.1.2.2.2.1, ((I.of .i64 0), ()))))), (x4.2.1, ()))) fun j4 =>
           brn (@I.ltb .i64 (I.of .i64 0) (I.ofNat .i64 (@lenL (I .u8) x3.2.1)))
            (brn (@I.nz .i64 (I.ofNat .i64 (@lenL (I .u8) x3.2.1)))
             (j4 ((x3.1.1, (x3.1.2.1, (x3.1.2.2.2.1, ((@I.rem .i64 (@I.quo .i64 x3.1.2.2.1 (I.of .i64 64)) (I.ofNat .i64 (@lenL (I .u8) x3.2.1))), ())))), (x3.2.1, ())))
             (.done (none)))
            (j4 ((x3.1.1, (x3.1.2.1, (x3.1.2.2.2.1, ((I.of .i64 0), ())))), (x3.2.1, ()))))
           (iter (.done (none)) (fun x4 =>
             brn (@I.ltb .i64 x4.1.2.2.2.2.1 x4.1.2.2.2.1)
              (brn (@I.nn .u64 (I.conv (k := .i64) .u64 (@I.rem .i64 x4.1.2.2.2.2.1 (I.of .i64 12))))
               (brn (fitsLen (@lenL (I .u8) (@appL (I .u8) x4.2.1 ((I.conv (k := .i64) .u8 (@I.add .i64 (@I.shr .i64 .u64 x4.1.2.2.1 (I.conv (k := .i64) .u64 (@I.rem .i64 x4.1.2.2.2.2.1 (I.of .i64 12)))) (@I.mul .i64 x4.1.2.2.2.2.1 x4.1.2.2.1))) :: []))))
                (.again ((x4.1.1, (x4.1.2.1, (x4.1.2.2.1, (x4.1.2.2.2.1, ((@I.add .i64 x4.1.2.2.2.2.1 (I.of .i64 1)), ()))))), ((@appL (I .u8) x4.2.1 ((I.conv (k := .i64) .u8 (@I.add .i64 (@I.shr .i64 .u64 x4.1.2.2.1 (I.conv (k := .i64) .u64 (@I.rem .i64 x4.1.2.2.2.2.1 (I.of .i64 12)))) (@I.mul .i64 x4.1.2.2.2.2.1 x4.1.2.2.1))) :: [])), ())))
                (.done (.done (none))))
               (.done (.done (none))))
              (.done (.again ((x4.1.1, ((@I.add .i64 x4.1.2.1 (I.of .i64 1)), ())), (x4.2.1, ())))))
           K0 ((x3.1.1, (x3.1.2.1, (x3.1.2.2.1, (x3.1.2.2.2.1, ((I.of .i64 0), ()))))), (x3.2.1, ())))) fun j3 =>
        brn (@I.eqb .i64 x2.1.2.2.2.2.1 (I.of .i64 2))
         (j3 ((x2.1.1, (x2.1.2.1, (x2.1.2.2.1, (x2.1.2.2.2.1, ((@I.eqb .i64 x2.1.2.2.2.2.1 (I.of .i64 2)), ()))))), (x2.2.1, ())))
         (brn (@I.eqb .i64 x2.1.2.2.2.2.1 (I.of .i64 3))
          (j3 ((x2.1.1, (x2.1.2.1, (x2.1.2.2.1, (x2.1.2.2.2.1, ((@I.eqb .i64 x2.1.2.2.2.2.1 (I.of .i64 3)), ()))))), (x2.2.1, ())))
          (j3 ((x2.1.1, (x2.1.2.1, (x2.1.2.2.1, (x2.1.2.2.2.1, ((@I.eqb .i64 x2.1.2.2.2.2.1 (I.of .i64 4)), ()))))), (x2.2.1, ())))))) fun j2 =>
     brn (@I.eqb .i64 (@I.rem .i64 y1.1.1 (I.of .i64 8)) (I.of .i64 0))
      (j2 ((x0.1.1, (x0.1.2.1, (y1.1.1, ((@I.add .i64 (I.of .i64 1) (@I.rem .i64 (@I.quo .i64 y1.1.1 (I.of .i64 8)) (I.of .i64 24))), ((@I.rem .i64 y1.1.1 (I.of .i64 8)), ((@I.eqb .i64 (@I.rem .i64 y1.1.1 (I.of .i64 8)) (I.of .i64 0)), ())))))), (x0.2.1, ())))
      (j2 ((x0.1.1, (x0.1.2.1, (y1.1.1, ((@I.add .i64 (I.of .i64 1) (@I.rem .i64 (@I.quo .i64 y1.1.1 (I.of .i64 8)) (I.of .i64 24))), ((@I.rem .i64 y1.1.1 (I.of .i64 8)), ((@I.eqb .i64 (@I.rem .i64 y1.1.1 (I.of .i64 8)) (I.of .i64 1)), ())))))), (x0.2.1, ()))))
     (.done (none)))
    (.done (some ((x0.2.1, ()), ()))))
 K0 ((a, ((I.of .i64 0), ())), ([], ()))

/-- pontage/pontagelaw0.EdgeUint256 -/
noncomputable def pontagelaw0_EdgeUint256 (x : (⟨[.pl (.int .u64), .pl (.int .u64), .pl (.int .i64)], []⟩ : Tm).D) : Option (⟨[.pl (.arr 4 (.int .u64))], []⟩ : Tm).D :=
 let a : I .u64 := x.1.1
 let b : I .u64 := x.1.2.1
 let c : I .i64 := x.1.2.2.1
 optF (none) (pontagelaw0_Mod ((c, ((I.of .i64 9), ())), ())) fun y0 =>
 brn (@I.eqb .i64 y0.1.1 (I.of .i64 0))
  (some (((a, ((I.of .u64 0), ((I.of .u64 0), ((I.of .u64 0), ())))), ()), ()))
  (brn (@I.eqb .i64 y0.1.1 (I.of .i64 1))
   (some (((a, (b, ((I.of .u64 0), ((I.of .u64 0), ())))), ()), ()))
   (brn (@I.eqb .i64 y0.1.1 (I.of .i64 2))
    (some (((a, (b, (a, (b, ())))), ()), ()))
    (brn (@I.eqb .i64 y0.1.1 (I.of .i64 3))
     (some ((((@I.sub .u64 (I.of .u64 18446744073709551615) (@I.rem .u64 a (I.of .u64 4))), ((I.of .u64 18446744073709551615), ((I.of .u64 18446744073709551615), ((I.of .u64 18446744073709551615), ())))), ()), ()))
     (brn (@I.eqb .i64 y0.1.1 (I.of .i64 4))
      (some ((((@I.rem .u64 a (I.of .u64 4)), ((I.of .u64 0), ((@I.add .u64 (I.of .u64 1) (@I.rem .u64 b (I.of .u64 4))), ((I.of .u64 0), ())))), ()), ()))
      (brn (@I.eqb .i64 y0.1.1 (I.of .i64 5))
       (some ((((I.of .u64 18446744073709551615), ((I.of .u64 18446744073709551615), ((I.of .u64 0), ((I.of .u64 0), ())))), ()), ()))
       (brn (@I.eqb .i64 y0.1.1 (I.of .i64 6))
        (brn (@I.nn .u64 (@I.rem .u64 b (I.of .u64 64)))
         (some ((((I.of .u64 0), ((I.of .u64 0), ((I.of .u64 0), ((@I.shl .u64 .u64 (I.of .u64 1) (@I.rem .u64 b (I.of .u64 64))), ())))), ()), ()))
         (none))
        (brn (@I.eqb .i64 y0.1.1 (I.of .i64 7))
         (some ((((@I.rem .u64 a (I.of .u64 16)), ((I.of .u64 0), ((I.of .u64 0), ((I.of .u64 0), ())))), ()), ()))
         (some (((b, (a, (b, ((I.of .u64 0), ())))), ()), ())))))))))

/-- pontage/pontagelaw23.build -/
noncomputable def pontagelaw23_build (x : (⟨[.pl (.cons (.int .u64) (.cons (.int .u64) (.cons (.int .u64) (.cons (.int .u64) (.cons (.int .u64) (.cons (.int .u64) (.cons (.int .i64) (.cons (.sl (.int .i64)) .nil))))))))], []⟩ : Tm).D) : Option (⟨[.pl (.cons (.int .u64) (.cons (.int .u64) (.cons (.int .u64) (.cons (.arr 4 (.int .u64)) (.cons (.int .u64) (.cons (.arr 4 (.int .u64)) (.cons (.arr 4 (.int .u64)) (.cons (.int .u64) (.cons (.sl (.int .u8)) .nil))))))))), .pl (.arr 4 (.int .u64)), .pl (.arr 4 (.int .u64))], []⟩ : Tm).D :=
 let a : (I .u64) × (I .u64) × (I .u64) × (I .u64) × (I .u64) × (I .u64) × (I .i64) × (List (I .i64)) × Unit := x.1.1
 brn (@I.nn .u64 (@I.add .u64 (I.of .u64 1) (@I.rem .u64 a.2.2.2.2.1 (I.of .u64 50))))
  (brn (@I.nz .u64 (@I.shl .u64 .u64 (I.of .u64 1) (@I.add .u64 (I.of .u64 1) (@I.rem .u64 a.2.2.2.2.1 (I.of .u64 50)))))
   (brn (@I.nn .u64 (@I.add .u64 (I.of .u64 1) (@I.rem .u64 a.1 (I.of .u64 40))))
    (brn (@I.nz .u64 (@I.shl .u64 .u64 (I.of .u64 1) (@I.add .u64 (I.of .u64 1) (@I.rem .u64 a.1 (I.of .u64 40)))))
     (brn (@I.nn .u64 (@I.add .u64 (I.of .u64 1) (@I.rem .u64 a.2.1 (I.of .u64 50))))
      (brn (@I.nz .u64 (@I.shl .u64 .u64 (I.of .u64 1) (@I.add .u64 (I.of .u64 1) (@I.rem .u64 a.2.1 (I.of .u64 50)))))
       (optF (none) (uint256_SaturatingAdd ((((@I.add .u64 (I.of .u64 1) (@I.rem .u64 a.2.2.2.2.1 (@I.shl .u64 .u64 (I.of .u64 1) (@I.add .u64 (I.of .u64 1) (@I.rem .u64 a.2.2.2.2.1 (I.of .u64 50)))))), ((I.of .u64 0), ((I.of .u64 0), ((I.of .u64 0), ())))), (((@I.rem .u64 a.2.1 (@I.shl .u64 .u64 (I.of .u64 1) (@I.add .u64 (I.of .u64 1) (@I.rem .u64 a.2.1 (I.of .u64 50))))), ((I.of .u64 0), ((I.of .u64 0), ((I.of .u64 0), ())))), ())), ())) fun y0 =>
       brn (@I.nn .u64 (@I.add .u64 (I.of .u64 1) (@I.rem .u64 a.2.2.1 (I.of .u64 50))))
        (brn (@I.nz .u64 (@I.shl .u64 .u64 (I.of .u64 1) (@I.add .u64 (I.of .u64 1) (@I.rem .u64 a.2.2.1 (I.of .u64 50)))))
         (brn (@I.nn .u64 (@I.add .u64 (I.of .u64 1) (@I.rem .u64 a.2.2.2.1 (I.of .u64 40))))
          (brn (@I.nz .u64 (@I.shl .u64 .u64 (I.of .u64 1) (@I.add .u64 (I.of .u64 1) (@I.rem .u64 a.2.2.2.1 (I.of .u64 40)))))
           (optF (none) (pontagelaw0_RepetitiveBytes ((a.2.2.2.2.2.2.2.1, ()), ())) fun y1 =>
           jn (fun (x2 : (Unit × (((I .u64) × ((I .u64) × ((I .u64) × ((I .u64) × ((I .u64) × ((I .u64) × ((I .i64) × ((List (I .i64)) × Unit)))))))) × (((I .u64) × ((I .u64) × ((I .u64) × (((I .u64) × ((I .u64) × ((I .u64) × ((I .u64) × Unit)))) × ((I .u64) × (((I .u64) × ((I .u64) × ((I .u64) × ((I .u64) × Unit)))) × (((I .u64) × ((I .u64) × ((I .u64) × ((I .u64) × Unit)))) × ((I .u64) × ((List (I .u8)) × Unit))))))))) × (((I .u64) × ((I .u64) × ((I .u64) × ((I .u64) × Unit)))) × (((I .u64) × ((I .u64) × ((I .u64) × ((I .u64) × Unit)))) × (((I .u64) × ((I .u64) × ((I .u64) × ((I .u64) × Unit)))) × (((I .u64) × ((I .u64) × ((I .u64) × (((I .u64) × ((I .u64) × ((I .u64) × ((I .u64) × Unit)))) × ((I .u64) × (((I .u64) × ((I .u64) × ((I .u64) × ((I .u64) × Unit)))) × (((I .u64) × ((I .u64) × ((I .u64) × ((I .u64) × Unit)))) × ((I .u64) × ((List (I .u8)) × Unit))))))))) × Unit)))))))) =>
             brn (@I.nn .u64 (@I.add .u64 (I.of .u64 1) (@I.rem .u64 x2.2.1.2.2.2.2.2.1 (I.of .u64 40))))
              (brn (@I.nz .u64 (@I.shl .u64 .u64 (I.of .u64 1) (@I.add .u64 (I.of .u64 1) (@I.rem .u64 x2.2.1.2.2.2.2.2.1 (I.of .u64 40)))))
               (some ((x2.2.2.2.2.2.2.1, (x2.2.2.2.2.2.1, (((@I.rem .u64 x2.2.1.2.2.2.2.2.1 (@I.shl .u64 .u64 (I.of .u64 1) (@I.add .u64 (I.of .u64 1) (@I.rem .u64 x2.2.1.2.2.2.2.2.1 (I.of .u64 40))))), ((I.of .u64 0), ((I.of .u64 0), ((I.of .u64 0), ())))), ()))), ()))
               (none))
              (none)) fun j2 =>
           optF (none) (pontagelaw0_Mod ((a.2.2.2.2.2.2.1, ((I.of .i64 8), ())), ())) fun y3 =>
           brn (@I.eqb .i64 y3.1.1 (I.of .i64 0))
            (j2 ((), (a, (((I.of .u64 0), ((I.of .u64 0), ((I.of .u64 0), (((I.of .u64 0), ((I.of .u64 0), ((I.of .u64 0), ((I.of .u64 0), ())))), ((I.of .u64 0), (((I.of .u64 0), ((I.of .u64 0), ((I.of .u64 0), ((I.of .u64 0), ())))), (((I.of .u64 0), ((I.of .u64 0), ((I.of .u64 0), ((I.of .u64 0), ())))), ((I.of .u64 0), ([], ()))))))))), (((I.of .u64 0), ((I.of .u64 0), ((I.of .u64 0), ((I.of .u64 0), ())))), (((I.of .u64 0), ((I.of .u64 0), ((I.of .u64 0), ((I.of .u64 0), ())))), (((@I.add .u64 (I.of .u64 1) (@I.rem .u64 a.2.2.2.2.1 (@I.shl .u64 .u64 (I.of .u64 1) (@I.add .u64 (I.of .u64 1) (@I.rem .u64 a.2.2.2.2.1 (I.of .u64 50)))))), ((I.of .u64 0), ((I.of .u64 0), ((I.of .u64 0), ())))), (((I.of .u64 1), ((I.of .u64 0), ((I.of .u64 2), (((I.of .u64 0), ((I.of .u64 0), ((I.of .u64 0), ((I.of .u64 0), ())))), ((@I.rem .u64 a.1 (@I.shl .u64 .u64 (I.of .u64 1) (@I.add .u64 (I.of .u64 1) (@I.rem .u64 a.1 (I.of .u64 40))))), ((a.2.1, ((I.of .u64 0), ((I.of .u64 0), ((I.of .u64 0), ())))), (((@I.rem .u64 a.2.2.1 (@I.shl .u64 .u64 (I.of .u64 1) (@I.add .u64 (I.of .u64 1) (@I.rem .u64 a.2.2.1 (I.of .u64 50))))), ((I.of .u64 0), ((I.of .u64 0), ((I.of .u64 0), ())))), ((@I.rem .u64 a.2.2.2.1 (@I.shl .u64 .u64 (I.of .u64 1) (@I.add .u64 (I.of .u64 1) (@I.rem .u64 a.2.2.2.1 (I.of .u64 40))))), (y1.1.1, ()))))))))), ()))))))))
            (brn (@I.eqb .i64 y3.1.1 (I.of .i64 1))
             (optF (none) (pontagelaw0_EdgeUint256 ((a.2.2.1, (a.2.1, ((@I.quo .i64 a.2.2.2.2.2.2.1 (I.of .i64 8)), ()))), ())) fun y4 =>
             j2 ((), (a, (((I.of .u64 0), ((I.of .u64 0), ((I.of .u64 0), (((I.of .u64 0), ((I.of .u64 0), ((I.of .u64 0), ((I.of .u64 0), ())))), ((I.of .u64 0), (((I.of .u64 0), ((I.of .u64 0), ((I.of .u64 0), ((I.of .u64 0), ())))), (((I.of .u64 0), ((I.of .u64 0), ((I.of .u64 0), ((I.of .u64 0), ())))), ((I.of .u64 0), ([], ()))))))))), (((I.of .u64 0), ((I.of .u64 0), ((I.of .u64 0), ((I.of .u64 0), ())))), (((I.of .u64 0), ((I.of .u64 0), ((I.of .u64 0), ((I.of .u64 0), ())))), (((@I.add .u64 (I.of .u64 1) (@I.rem .u64 a.2.2.2.2.1 (@I.shl .u64 .u64 (I.of .u64 1) (@I.add .u64 (I.of .u64 1) (@I.rem .u64 a.2.2.2.2.1 (I.of .u64 50)))))), ((I.of .u64 0), ((I.of .u64 0), ((I.of .u64 0), ())))), (((I.of .u64 1), ((I.of .u64 0), ((I.of .u64 2), (((I.of .u64 0), ((I.of .u64 0), ((I.of .u64 0), ((I.of .u64 0), ())))), ((@I.rem .u64 a.1 (@I.shl .u64 .u64 (I.of .u64 1) (@I.add .u64 (I.of .u64 1) (@I.rem .u64 a.1 (I.of .u64 40))))), (y0.1.1, (y4.1.1, ((@I.rem .u64 a.2.2.2.1 (@I.shl .u64 .u64 (I.of .u64 1) (@I.add .u64 (I.of .u64 1) (@I.rem .u64 a.2.2.2.1 (I.of .u64 40))))), (y1.1.1, ()))))))))), ()))))))))
             (brn (@I.eqb .i64 y3.1.1 (I.of .i64 2))
              (optF (none) (pontagelaw0_EdgeUint256 ((a.2.1, (a.2.2.1, ((@I.quo .i64 a.2.2.2.2.2.2.1 (I.of .i64 8)), ()))), ())) fun y4 =>
              optF (none) (pontagelaw0_EdgeUint256 ((a.2.2.1, (a.2.1, ((@I.quo .i64 a.2.2.2.2.2.2.1 (I.of .i64 64)), ()))), ())) fun y5 =>
              j2 ((), (a, (((I.of .u64 0), ((I.of .u64 0), ((I.of .u64 0), (((I.of .u64 0), ((I.of .u64 0), ((I.of .u64 0), ((I.of .u64 0), ())))), ((I.of .u64 0), (((I.of .u64 0), ((I.of .u64 0), ((I.of .u64 0), ((I.of .u64 0), ())))), (((I.of .u64 0), ((I.of .u64 0), ((I.of .u64 0), ((I.of .u64 0), ())))), ((I.of .u64 0), ([], ()))))))))), (((I.of .u64 0), ((I.of .u64 0), ((I.of .u64 0), ((I.of .u64 0), ())))), (((I.of .u64 0), ((I.of .u64 0), ((I.of .u64 0), ((I.of .u64 0), ())))), (((@I.add .u64 (I.of .u64 1) (@I.rem .u64 a.2.2.2.2.1 (@I.shl .u64 .u64 (I.of .u64 1) (@I.add .u64 (I.of .u64 1) (@I.rem .u64 a.2.2.2.2.1 (I.of .u64 50)))))), ((I.of .u64 0), ((I.of .u64 0), ((I.of .u64 0), ())))), (((I.of .u64 1), ((I.of .u64 0), ((I.of .u64 2), (((I.of .u64 0), ((I.of .u64 0), ((I.of .u64 0), ((I.of .u64 0), ())))), ((@I.rem .u64 a.1 (@I.shl .u64 .u64 (I.of .u64 1) (@I.add .u64 (I.of .u64 1) (@I.rem .u64 a.1 (I.of .u64 40))))), (y4.1.1, (y5.1.1, ((@I.rem .u64 a.2.2.2.1 (@I.shl .u64 .u64 (I.of .u64 1) (@I.add .u64 (I.of .u64 1) (@I.rem .u64 a.2.2.2.1 (I.of .u64 40))))), (y1.1.1, ()))))))))), ()))))))))
              (brn (@I.eqb .i64 y3.1.1 (I.of .i64 3))
               (j2 ((), (a, (((I.of .u64 0), ((I.of .u64 0), ((I.of .u64 0), (((I.of .u64 0), ((I.of .u64 0), ((I.of .u64 0), ((I.of .u64 0), ())))), ((I.of .u64 0), (((I.of .u64 0), ((I.of .u64 0), ((I.of .u64 0), ((I.of .u64 0), ())))), (((I.of .u64 0), ((I.of .u64 0), ((I.of .u64 0), ((I.of .u64 0), ())))), ((I.of .u64 0), ([], ()))))))))), (((I.of .u64 0), ((I.of .u64 0), ((I.of .u64 0), ((I.of .u64 0), ())))), (((I.of .u64 0), ((I.of .u64 0), ((I.of .u64 0), ((I.of .u64 0), ())))), (((@I.add .u64 (I.of .u64 1) (@I.rem .u64 a.2.2.2.2.1 (@I.shl .u64 .u64 (I.of .u64 1) (@I.add .u64 (I.of .u64 1) (@I.rem .u64 a.2.2.2.2.1 (I.of .u64 50)))))), ((I.of .u64 0), ((I.of .u64 0), ((I.of .u64 0), ())))), (((I.of .u64 1), ((I.of .u64 0), ((I.of .u64 2), (((I.of .u64 0), ((I.of .u64 0), ((I.of .u64 0), ((I.of .u64 0), ())))), (a.1, (y0.1.1, (((@I.rem .u64 a.2.2.1 (@I.shl .u64 .u64 (I.of .u64 1) (@I.add .u64 (I.of .u64 1) (@I.rem .u64 a.2.2.1 (I.of .u64 50))))), ((I.of .u64 0), ((I.of .u64 0), ((I.of .u64 0), ())))), (a.2.2.2.1, (y1.1.1, ()))))))))), ()))))))))
               (j2 ((), (a, (((I.of .u64 0), ((I.of .u64 0), ((I.of .u64 0), (((I.of .u64 0), ((I.of .u64 0), ((I.of .u64 0), ((I.of .u64 0), ())))), ((I.of .u64 0), (((I.of .u64 0), ((I.of .u64 0), ((I.of .u64 0), ((I.of .u64 0), ())))), (((I.of .u64 0), ((I.of .u64 0), ((I.of .u64 0), ((I.of .u64 0), ())))), ((I.of .u64 0), ([], ()))))))))), (((I.of .u64 0), ((I.of .u64 0), ((I.of .u64 0), ((I.of .u64 0), ())))), (((I.of .u64 0), ((I.of .u64 0), ((I.of .u64 0), ((I.of .u64 0), ())))), (((@I.add .u64 (I.of .u64 1) (@I.rem .u64 a.2.2.2.2.1 (@I.shl .u64 .u64 (I.of .u64 1) (@I.add .u64 (I.of .u64 1) (@I.rem .u64 a.2.2.2.2.1 (I.of .u64 50)))))), ((I.of .u64 0), ((I.of .u64 0), ((I.of .u64 0), ())))), (((I.of .u64 1), ((I.of .u64 0), ((I.of .u64 2), (((I.of .u64 0), ((I.of .u64 0), ((I.of .u64 0), ((I.of .u64 0), ())))), ((@I.rem .u64 a.1 (@I.shl .u64 .u64 (I.of .u64 1) (@I.add .u64 (I.of .u64 1) (@I.rem .u64 a.1 (I.of .u64 40))))), (y0.1.1, (((@I.rem .u64 a.2.2.1 (@I.shl .u64 .u64 (I.of .u64 1) (@I.add .u64 (I.of .u64 1) (@I.rem .u64 a.2.2.1 (I.of .u64 50))))), ((I.of .u64 0), ((I.of .u64 0), ((I.of .u64 0), ())))), ((@I.rem .u64 a.2.2.2.1 (@I.shl .u64 .u64 (I.of .u64 1) (@I.add .u64 (I.of .u64 1) (@I.rem .u64 a.2.2.2.1 (I.of .u64 40))))), (y1.1.1, ()))))))))), ()))))))))))))
           (none))
          (none))
         (none))
        (none))
       (none))
      (none))
     (none))
    (none))
   (none))
  (none)

/-- pontage/pontagelaw23.TxfeeGasPriceBounds -/
noncomputable def pontagelaw23_TxfeeGasPriceBounds (x : (⟨[.pl (.cons (.int .u64) (.cons (.int .u64) (.cons (.int .u64) (.cons (.int .u64) (.cons (.int .u64) (.cons (.int .u64) (.cons (.int .i64) (.cons (.sl (.int .i64)) .nil)))))))), .pl (.int .u64)], []⟩ : Tm).D) : Option (⟨[.pl .bool], []⟩ : Tm).D :=
 let a : (I .u64) × (I .u64) × (I .u64) × (I .u64) × (I .u64) × (I .u64) × (I .i64) × (List (I .i64)) × Unit := x.1.1
 let b : I .u64 := x.1.2.1
 brn (@I.ltb .i64 (I.of .i64 5) (I.ofNat .i64 (@lenL (I .i64) a.2.2.2.2.2.2.2.1)))
  (optF (none) (pontagelaw23_awake ((), ())) fun y0 =>
  some ((y0.1.1, ()), ()))
  (optF (none) (pontagelaw23_build ((a, ()), ())) fun y0 =>
  optF (none) (txfee_GasPrice ((y0.1.1, (y0.1.2.1, ())), ())) fun y1 =>
  brn (@I.neb .i64 y1.1.2.1 (I.of .i64 0))
   (brn (@I.eqb .i64 y1.1.2.1 (I.of .i64 12))
    (optF (none) (uint256_Cmp ((y0.1.1.2.2.2.2.2.1, (y0.1.2.1, ())), ())) fun y2 =>
    brn (@I.ltb .i64 y2.1.1 (I.of .i64 0))
     (optF (none) (pontagelaw23_awake ((), ())) fun y3 =>
     some ((y3.1.1, ()), ()))
     (some ((false, ()), ())))
    (some ((false, ()), ())))
   (optF (none) (uint256_Add ((y0.1.2.1, (y0.1.1.2.2.2.2.2.2.1, ())), ())) fun y2 =>
   optF (none) (uint256_SaturatingAdd ((y0.1.1.2.2.2.2.2.2.1, ((b, ((I.of .u64 0), ((I.of .u64 0), ((I.of .u64 0), ())))), ())), ())) fun y3 =>
   optF (none) (uint256_SaturatingAdd ((y0.1.1.2.2.2.2.2.1, ((b, ((I.of .u64 0), ((I.of .u64 0), ((I.of .u64 0), ())))), ())), ())) fun y4 =>
   optF (none) (txfee_GasPrice (((y0.1.1.1, (y0.1.1.2.1, (y0.1.1.2.2.1, (y0.1.1.2.2.2.1, (y0.1.1.2.2.2.2.1, (y0.1.1.2.2.2.2.2.1, (y3.1.1, y0.1.1.2.2.2.2.2.2.2))))))), (y0.1.2.1, ())), ())) fun y5 =>
   optF (none) (txfee_GasPrice (((y0.1.1.1, (y0.1.1.2.1, (y0.1.1.2.2.1, (y0.1.1.2.2.2.1, (y0.1.1.2.2.2.2.1, (y4.1.1, y0.1.1.2.2.2.2.2.2)))))), (y0.1.2.1, ())), ())) fun y6 =>
   brn (@I.eqb .i64 y5.1.2.1 (I.of .i64 0))
    (brn (@I.eqb .i64 y6.1.2.1 (I.of .i64 0))
     (optF (none) (uint256_Cmp ((y0.1.2.1, (y1.1.1, ())), ())) fun y7 =>
     brn (@I.leb .i64 y7.1.1 (I.of .i64 0))
      (optF (none) (uint256_Cmp ((y1.1.1, (y0.1.1.2.2.2.2.2.1, ())), ())) fun y8 =>
      brn (@I.leb .i64 y8.1.1 (I.of .i64 0))
       (brn (Ty.eqb (.arr 4 (.int .u64)) y1.1.1 y0.1.1.2.2.2.2.2.1)
        (optF (none) (uint256_Cmp ((y1.1.1, (y5.1.1, ())), ())) fun y9 =>
        brn (@I.leb .i64 y9.1.1 (I.of .i64 0))
         (optF (none) (uint256_Cmp ((y1.1.1, (y6.1.1, ())), ())) fun y10 =>
         brn (@I.leb .i64 y10.1.1 (I.of .i64 0))
          (optF (none) (pontagelaw23_awake ((), ())) fun y11 =>
          some ((y11.1.1, ()), ()))
          (some ((false, ()), ())))
         (some ((false, ()), ())))
        (brn (@I.eqb .i64 y2.1.2.1 (I.of .i64 0))
         (brn (Ty.eqb (.arr 4 (.int .u64)) y1.1.1 y2.1.1)
          (optF (none) (uint256_Cmp ((y1.1.1, (y5.1.1, ())), ())) fun y9 =>
          brn (@I.leb .i64 y9.1.1 (I.of .i64 0))
           (optF (none) (uint256_Cmp ((y1.1.1, (y6.1.1, ())), ())) fun y10 =>
           brn (@I.leb .i64 y10.1.1 (I.of .i64 0))
            (optF (none) (pontagelaw23_awake ((), ())) fun y11 =>
            some ((y11.1.1, ()), ()))
            (some ((false, ()), ())))
           (some ((false, ()), ())))
          (some ((false, ()), ())))
         (some ((false, ()), ()))))
       (some ((false, ()), ())))
      (some ((false, ()), ())))
     (some ((false, ()), ())))
    (some ((false, ()), ()))))

end Sym

/- The contracts of the given functions. -/
namespace Sym
open Go Go.Proofs
set_option maxRecDepth 100000

def tys : List (Nat × Ty) := [(2, (.int .i64)), (3, (.int .i64)), (4, .bool), (5, (.int .u8)), (6, (.int .u8)), (7, (.cons (.int .i64) (.cons (.int .i64) (.cons .bool (.cons (.int .u8) .nil))))), (22, (.int .u64)), (23, (.sl (.int .i64))), (25, (.cons (.int .u64) (.cons (.int .u64) (.cons (.int .u64) (.cons (.int .u64) (.cons (.int .u64) (.cons (.int .u64) (.cons (.int .i64) (.cons (.sl (.int .i64)) .nil))))))))), (29, (.arr 4 (.int .u64))), (30, (.sl (.int .u8))), (32, (.cons (.int .u64) (.cons (.int .u64) (.cons (.int .u64) (.cons (.arr 4 (.int .u64)) (.cons (.int .u64) (.cons (.arr 4 (.int .u64)) (.cons (.arr 4 (.int .u64)) (.cons (.int .u64) (.cons (.sl (.int .u8)) .nil)))))))))), (35, (.int .i64)), (74, (.sl (.arr 4 (.int .u64)))), (79, (.int .u64))]
def eqs : List (Nat × Ty) := [(2, (.int .i64)), (3, (.int .i64)), (4, .bool), (5, (.int .u8)), (6, (.int .u8)), (7, (.cons (.int .i64) (.cons (.int .i64) (.cons .bool (.cons (.int .u8) .nil))))), (22, (.int .u64)), (29, (.arr 4 (.int .u64))), (35, (.int .i64)), (79, (.int .u64))]
theorem tysOk : tys.all (fun x => tiB Try.prog x.1 x.2) = true := by kernel_rfl
theorem eqsOk : eqs.all (fun x => eqiB Try.prog x.1 x.2) = true := by kernel_rfl
theorem follows : Try.prog.follows .mixedOrders = true := by kernel_rfl
theorem noOddP : noOdd Try.prog := noOdd_of (by kernel_rfl)
theorem ok40 : ConOk Try.prog 40 add64C := add64_ok (fn := Try.f40) (by kernel_rfl) (by kernel_rfl) (by kernel_rfl) (by kernel_rfl) (by kernel_rfl)
/-- pontage/uint256.Add -/
noncomputable def uint256_AddC : Con := ⟨_, _, uint256_Add⟩
noncomputable def env14 : Env := mkEnv Try.prog tys eqs [(40, .con add64C)]
def ann14 : Anns := fun p _ => match p with | 1000000 :: _ => none | _ => some (.unroll 6)
theorem ev14 : ∀ x, evalFn env14 ann14 14 ⟨[.pl (.arr 4 (.int .u64)), .pl (.arr 4 (.int .u64))], []⟩ ⟨[.pl (.arr 4 (.int .u64)), .pl (.int .i64)], []⟩ 60 K0 x = uint256_Add x := by intro x; kernel_rfl
theorem ok14 : ConOk Try.prog 14 uint256_AddC := con_of_ev (E := env14) (envOk tysOk eqsOk (show HowsOk Try.prog [(40, .con add64C)] from (And.intro ok40 trivial)) follows) noOddP fun x y h => ⟨ann14, 60, K0, (ev14 x).trans h⟩
theorem ok53 : ConOk Try.prog 53 sub64C := sub64_ok (fn := Try.f53) (by kernel_rfl) (by kernel_rfl) (by kernel_rfl) (by kernel_rfl) (by kernel_rfl)
/-- pontage/uint256.Sub -/
noncomputable def uint256_SubC : Con := ⟨_, _, uint256_Sub⟩
noncomputable def env38 : Env := mkEnv Try.prog tys eqs [(53, .con sub64C)]
def ann38 : Anns := fun p _ => match p with | 1000000 :: _ => none | _ => some (.unroll 6)
theorem ev38 : ∀ x, evalFn env38 ann38 38 ⟨[.pl (.arr 4 (.int .u64)), .pl (.arr 4 (.int .u64))], []⟩ ⟨[.pl (.arr 4 (.int .u64)), .pl (.int .i64)], []⟩ 60 K0 x = uint256_Sub x := by intro x; kernel_rfl
theorem ok38 : ConOk Try.prog 38 uint256_SubC := con_of_ev (E := env38) (envOk tysOk eqsOk (show HowsOk Try.prog [(53, .con sub64C)] from (And.intro ok53 trivial)) follows) noOddP fun x y h => ⟨ann38, 60, K0, (ev38 x).trans h⟩
/-- pontage/uint256.Cmp -/
noncomputable def uint256_CmpC : Con := ⟨_, _, uint256_Cmp⟩
noncomputable def env13 : Env := mkEnv Try.prog tys eqs []
def ann13 : Anns := fun p _ => match p with | 1000000 :: _ => none | _ => some (.unroll 6)
theorem ev13 : ∀ x, evalFn env13 ann13 13 ⟨[.pl (.arr 4 (.int .u64)), .pl (.arr 4 (.int .u64))], []⟩ ⟨[.pl (.int .i64)], []⟩ 60 K0 x = uint256_Cmp x := by intro x; kernel_rfl
theorem ok13 : ConOk Try.prog 13 uint256_CmpC := con_of_ev (E := env13) (envOk tysOk eqsOk (show HowsOk Try.prog [] from trivial) follows) noOddP fun x y h => ⟨ann13, 60, K0, (ev13 x).trans h⟩
/-- pontage/uint256.Min -/
noncomputable def uint256_MinC : Con := ⟨_, _, uint256_Min⟩
noncomputable def env39 : Env := mkEnv Try.prog tys eqs [(13, .con uint256_CmpC)]
def ann39 : Anns := fun p c => match p, c with | [39], 0 => some (.tmpl ⟨[.dead, .dead, .ptr 0 [], .dead, .ptr 1 [], .dead, .dead, .pl (.sl (.arr 4 (.int .u64))), .pl (.int .i64), .pl (.int .i64), .dead, .dead, .dead, .dead, .dead, .dead, .dead, .dead, .dead, .dead], [.box (.arr 4 (.int .u64)) (.pl (.arr 4 (.int .u64))), .box (.arr 4 (.int .u64)) (.pl (.arr 4 (.int .u64)))]⟩) | _, _ => none
theorem ev39 : ∀ x, evalFn env39 ann39 39 ⟨[.pl (.arr 4 (.int .u64)), .pl (.sl (.arr 4 (.int .u64)))], []⟩ ⟨[.pl (.arr 4 (.int .u64))], []⟩ 60 K0 x = uint256_Min x := by intro x; kernel_rfl
theorem ok39 : ConOk Try.prog 39 uint256_MinC := con_of_ev (E := env39) (envOk tysOk eqsOk (show HowsOk Try.prog [(13, .con uint256_CmpC)] from (And.intro ok13 trivial)) follows) noOddP fun x y h => ⟨ann39, 60, K0, (ev39 x).trans h⟩
/-- pontage/txfee.GasPrice -/
noncomputable def txfee_GasPriceC : Con := ⟨_, _, txfee_GasPrice⟩
noncomputable def env12 : Env := mkEnv Try.prog tys eqs [(14, .con uint256_AddC), (38, .con uint256_SubC), (39, .con uint256_MinC)]
def ann12 : Anns := fun _ _ => none
theorem ev12 : ∀ x, evalFn env12 ann12 12 ⟨[.pl (.cons (.int .u64) (.cons (.int .u64) (.cons (.int .u64) (.cons (.arr 4 (.int .u64)) (.cons (.int .u64) (.cons (.arr 4 (.int .u64)) (.cons (.arr 4 (.int .u64)) (.cons (.int .u64) (.cons (.sl (.int .u8)) .nil))))))))), .pl (.arr 4 (.int .u64))], []⟩ ⟨[.pl (.arr 4 (.int .u64)), .pl (.int .i64)], []⟩ 60 K0 x = txfee_GasPrice x := by intro x; kernel_rfl
theorem ok12 : ConOk Try.prog 12 txfee_GasPriceC := con_of_ev (E := env12) (envOk tysOk eqsOk (show HowsOk Try.prog [(14, .con uint256_AddC), (38, .con uint256_SubC), (39, .con uint256_MinC)] from (And.intro ok14 (And.intro ok38 (And.intro ok39 trivial)))) follows) noOddP fun x y h => ⟨ann12, 60, K0, (ev12 x).trans h⟩
/-- pontage/pontagelaw23.awake -/
noncomputable def pontagelaw23_awakeC : Con := ⟨_, _, pontagelaw23_awake⟩
noncomputable def env10 : Env := mkEnv Try.prog tys eqs [(12, .con txfee_GasPriceC)]
def ann10 : Anns := fun _ _ => none
theorem ev10 : ∀ x, evalFn env10 ann10 10 ⟨[], []⟩ ⟨[.pl .bool], []⟩ 60 K0 x = pontagelaw23_awake x := by intro x; kernel_rfl
theorem ok10 : ConOk Try.prog 10 pontagelaw23_awakeC := con_of_ev (E := env10) (envOk tysOk eqsOk (show HowsOk Try.prog [(12, .con txfee_GasPriceC)] from (And.intro ok12 trivial)) follows) noOddP fun x y h => ⟨ann10, 60, K0, (ev10 x).trans h⟩
/-- pontage/uint256.maxValue -/
noncomputable def uint256_maxValueC : Con := ⟨_, _, uint256_maxValue⟩
noncomputable def env41 : Env := mkEnv Try.prog tys eqs []
def ann41 : Anns := fun _ _ => none
theorem ev41 : ∀ x, evalFn env41 ann41 41 ⟨[], []⟩ ⟨[.pl (.arr 4 (.int .u64))], []⟩ 60 K0 x = uint256_maxValue x := by intro x; kernel_rfl
theorem ok41 : ConOk Try.prog 41 uint256_maxValueC := con_of_ev (E := env41) (envOk tysOk eqsOk (show HowsOk Try.prog [] from trivial) follows) noOddP fun x y h => ⟨ann41, 60, K0, (ev41 x).trans h⟩
/-- pontage/uint256.SaturatingAdd -/
noncomputable def uint256_SaturatingAddC : Con := ⟨_, _, uint256_SaturatingAdd⟩
noncomputable def env15 : Env := mkEnv Try.prog tys eqs [(14, .con uint256_AddC), (41, .con uint256_maxValueC)]
def ann15 : Anns := fun _ _ => none
theorem ev15 : ∀ x, evalFn env15 ann15 15 ⟨[.pl (.arr 4 (.int .u64)), .pl (.arr 4 (.int .u64))], []⟩ ⟨[.pl (.arr 4 (.int .u64))], []⟩ 60 K0 x = uint256_SaturatingAdd x := by intro x; kernel_rfl
theorem ok15 : ConOk Try.prog 15 uint256_SaturatingAddC := con_of_ev (E := env15) (envOk tysOk eqsOk (show HowsOk Try.prog [(14, .con uint256_AddC), (41, .con uint256_maxValueC)] from (And.intro ok14 (And.intro ok41 trivial))) follows) noOddP fun x y h => ⟨ann15, 60, K0, (ev15 x).trans h⟩
/-- pontage/pontagelaw0.Mod -/
noncomputable def pontagelaw0_ModC : Con := ⟨_, _, pontagelaw0_Mod⟩
noncomputable def env20 : Env := mkEnv Try.prog tys eqs []
def ann20 : Anns := fun _ _ => none
theorem ev20 : ∀ x, evalFn env20 ann20 20 ⟨[.pl (.int .i64), .pl (.int .i64)], []⟩ ⟨[.pl (.int .i64)], []⟩ 60 K0 x = pontagelaw0_Mod x := by intro x; kernel_rfl
theorem ok20 : ConOk Try.prog 20 pontagelaw0_ModC := con_of_ev (E := env20) (envOk tysOk eqsOk (show HowsOk Try.prog [] from trivial) follows) noOddP fun x y h => ⟨ann20, 60, K0, (ev20 x).trans h⟩
/-- pontage/pontagelaw0.RepetitiveBytes -/
noncomputable def pontagelaw0_RepetitiveBytesC : Con := ⟨_, _, pontagelaw0_RepetitiveBytes⟩
noncomputable def env36 : Env := mkEnv Try.prog tys eqs [(20, .con pontagelaw0_ModC)]
def ann36 : Anns := fun p c => match p, c with | [1000000, 36], 15 => some (.join ⟨[.pl (.sl (.int .i64)), .dead, .dead, .whole 0, .pl (.int .i64), .pl (.int .i64), .pl (.int .i64), .dead, .dead, .dead, .dead, .dead, .dead, .dead, .dead, .dead, .dead, .dead, .dead, .dead, .dead, .dead, .dead, .dead, .dead, .dead, .dead, .pl (.int .i64), .dead, .dead, .dead, .dead, .dead, .dead, .dead, .dead, .dead, .dead, .dead, .dead, .dead, .dead, .dead, .dead, .dead, .dead, .pl .bool, .dead, .dead, .dead, .dead, .dead, .dead, .dead, .dead, .dead, .dead, .dead, .dead, .dead, .dead, .dead, .dead, .dead, .dead, .dead, .dead, .dead, .dead, .dead, .dead, .dead, .dead, .dead, .dead, .dead, .dead, .dead, .dead, .dead, .dead, .dead, .dead, .dead, .dead, .dead, .dead, .dead, .dead, .dead, .dead, .dead, .dead, .dead, .dead, .dead, .dead], [.row (.int .u8)]⟩) | [1000000, 36], 22 => some (.join ⟨[.pl (.sl (.int .i64)), .dead, .dead, .whole 0, .pl (.int .i64), .pl (.int .i64), .pl (.int .i64), .dead, .dead, .dead, .dead, .dead, .dead, .dead, .dead, .dead, .dead, .dead, .dead, .dead, .dead, .dead, .dead, .dead, .dead, .dead, .dead, .dead, .dead, .dead, .dead, .dead, .dead, .dead, .dead, .dead, .dead, .dead, .dead, .dead, .dead, .dead, .dead, .dead, .dead, .dead, .dead, .dead, .dead, .dead, .dead, .dead, .dead, .dead, .dead, .dead, .dead, .dead, .dead, .dead, .dead, .dead, .pl .bool, .dead, .dead, .dead, .dead, .dead, .dead, .dead, .dead, .dead, .dead, .dead, .dead, .dead, .dead, .dead, .dead, .dead, .dead, .dead, .dead, .dead, .dead, .dead, .dead, .dead, .dead, .dead, .dead, .dead, .dead, .dead, .dead, .dead, .dead], [.row (.int .u8)]⟩) | [1000000, 36], 25 => some (.join ⟨[.pl (.sl (.int .i64)), .dead, .dead, .whole 0, .pl (.int .i64), .dead, .pl (.int .i64), .dead, .pl (.int .i64), .dead, .dead, .dead, .dead, .dead, .dead, .dead, .dead, .dead, .dead, .dead, .dead, .dead, .dead, .dead, .dead, .dead, .dead, .dead, .dead, .dead, .dead, .dead, .dead, .dead, .dead, .dead, .dead, .dead, .dead, .dead, .dead, .dead, .dead, .dead, .dead, .dead, .dead, .dead, .dead, .dead, .dead, .dead, .dead, .dead, .dead, .dead, .dead, .dead, .dead, .dead, .dead, .dead, .dead, .dead, .dead, .dead, .dead, .dead, .dead, .dead, .dead, .dead, .dead, .dead, .dead, .dead, .dead, .dead, .dead, .dead, .dead, .dead, .dead, .dead, .dead, .dead, .dead, .dead, .dead, .dead, .dead, .dead, .dead, .dead, .dead, .dead, .dead], [.row (.int .u8)]⟩) | [36], 0 => some (.tmpl ⟨[.pl (.sl (.int .i64)), .dead, .dead, .whole 0, .pl (.int .i64), .dead, .dead, .dead, .dead, .dead, .dead, .dead, .dead, .dead, .dead, .dead, .dead, .dead, .dead, .dead, .dead, .dead, .dead, .dead, .dead, .dead, .dead, .dead, .dead, .dead, .dead, .dead, .dead, .dead, .dead, .dead, .dead, .dead, .dead, .dead, .dead, .dead, .dead, .dead, .dead, .dead, .dead, .dead, .dead, .dead, .dead, .dead, .dead, .dead, .dead, .dead, .dead, .dead, .dead, .dead, .dead, .dead, .dead, .dead, .dead, .dead, .dead, .dead, .dead, .dead, .dead, .dead, .dead, .dead, .dead, .dead, .dead, .dead, .dead, .dead, .dead, .dead, .dead, .dead, .dead, .dead, .dead, .dead, .dead, .dead, .dead, .dead, .dead, .dead, .dead, .dead, .dead], [.row (.int .u8)]⟩) | [36], 3 => some (.tmpl ⟨[.pl (.sl (.int .i64)), .dead, .dead, .whole 0, .pl (.int .i64), .pl (.int .i64), .pl (.int .i64), .dead, .dead, .dead, .pl (.int .i64), .dead, .dead, .dead, .dead, .dead, .dead, .dead, .dead, .dead, .dead, .dead, .dead, .dead, .dead, .dead, .dead, .dead, .dead, .dead, .dead, .dead, .dead, .dead, .dead, .dead, .dead, .dead, .dead, .dead, .dead, .dead, .dead, .dead, .dead, .dead, .dead, .dead, .dead, .dead, .dead, .dead, .dead, .dead, .dead, .dead, .dead, .dead, .dead, .dead, .dead, .dead, .dead, .dead, .dead, .dead, .dead, .dead, .dead, .dead, .dead, .dead, .dead, .dead, .dead, .dead, .dead, .dead, .dead, .dead, .dead, .dead, .dead, .dead, .dead, .dead, .dead, .dead, .dead, .dead, .dead, .dead, .dead, .dead, .dead, .dead, .dead], [.row (.int .u8)]⟩) | [36], 5 => some (.tmpl ⟨[.pl (.sl (.int .i64)), .dead, .dead, .whole 0, .pl (.int .i64), .pl (.int .i64), .pl (.int .i64), .pl (.int .i64), .dead, .dead, .dead, .dead, .dead, .dead, .dead, .dead, .dead, .dead, .dead, .dead, .dead, .dead, .dead, .dead, .dead, .dead, .dead, .dead, .dead, .dead, .dead, .dead, .dead, .dead, .dead, .dead, .dead, .dead, .dead, .dead, .dead, .dead, .dead, .dead, .dead, .dead, .dead, .dead, .dead, .dead, .dead, .dead, .dead, .dead, .dead, .dead, .dead, .dead, .dead, .dead, .dead, .dead, .dead, .dead, .dead, .dead, .dead, .dead, .dead, .dead, .dead, .dead, .dead, .dead, .dead, .dead, .dead, .dead, .dead, .dead, .dead, .dead, .dead, .dead, .dead, .dead, .dead, .dead, .dead, .dead, .dead, .dead, .dead, .dead, .dead, .dead, .dead], [.row (.int .u8)]⟩) | [36], 7 => some (.tmpl ⟨[.pl (.sl (.int .i64)), .dead, .dead, .whole 0, .pl (.int .i64), .dead, .pl (.int .i64), .dead, .pl (.int .i64), .pl (.int .i64), .dead, .dead, .dead, .dead, .dead, .dead, .dead, .dead, .dead, .dead, .dead, .dead, .dead, .dead, .dead, .dead, .dead, .dead, .dead, .dead, .dead, .dead, .dead, .dead, .dead, .dead, .dead, .dead, .dead, .dead, .dead, .dead, .dead, .dead, .dead, .dead, .dead, .dead, .dead, .dead, .dead, .dead, .dead, .dead, .dead, .dead, .dead, .dead, .dead, .dead, .dead, .dead, .dead, .dead, .dead, .dead, .dead, .dead, .dead, .dead, .dead, .dead, .dead, .dead, .dead, .dead, .dead, .dead, .dead, .dead, .dead, .dead, .dead, .dead, .dead, .dead, .dead, .dead, .dead, .dead, .dead, .dead, .dead, .dead, .dead, .dead, .dead], [.row (.int .u8)]⟩) | _, _ => none
theorem ev36 : ∀ x, evalFn env36 ann36 36 ⟨[.pl (.sl (.int .i64))], []⟩ ⟨[.pl (.sl (.int .u8))], []⟩ 60 K0 x = pontagelaw0_RepetitiveBytes x := by intro x; kernel_rfl
theorem ok36 : ConOk Try.prog 36 pontagelaw0_RepetitiveBytesC := con_of_ev (E := env36) (envOk tysOk eqsOk (show HowsOk Try.prog [(20, .con pontagelaw0_ModC)] from (And.intro ok20 trivial)) follows) noOddP fun x y h => ⟨ann36, 60, K0, (ev36 x).trans h⟩
/-- pontage/pontagelaw0.EdgeUint256 -/
noncomputable def pontagelaw0_EdgeUint256C : Con := ⟨_, _, pontagelaw0_EdgeUint256⟩
noncomputable def env37 : Env := mkEnv Try.prog tys eqs [(20, .con pontagelaw0_ModC)]
def ann37 : Anns := fun _ _ => none
theorem ev37 : ∀ x, evalFn env37 ann37 37 ⟨[.pl (.int .u64), .pl (.int .u64), .pl (.int .i64)], []⟩ ⟨[.pl (.arr 4 (.int .u64))], []⟩ 60 K0 x = pontagelaw0_EdgeUint256 x := by intro x; kernel_rfl
theorem ok37 : ConOk Try.prog 37 pontagelaw0_EdgeUint256C := con_of_ev (E := env37) (envOk tysOk eqsOk (show HowsOk Try.prog [(20, .con pontagelaw0_ModC)] from (And.intro ok20 trivial)) follows) noOddP fun x y h => ⟨ann37, 60, K0, (ev37 x).trans h⟩
/-- pontage/pontagelaw23.build -/
noncomputable def pontagelaw23_buildC : Con := ⟨_, _, pontagelaw23_build⟩
noncomputable def env11 : Env := mkEnv Try.prog tys eqs [(15, .con uint256_SaturatingAddC), (20, .con pontagelaw0_ModC), (36, .con pontagelaw0_RepetitiveBytesC), (37, .con pontagelaw0_EdgeUint256C)]
def ann11 : Anns := fun p c => match p, c with | [1000000, 11], 13 => some (.join ⟨[.dead, .ptr 0 [], .ptr 1 [], .ptr 2 [], .ptr 3 [], .ptr 4 [], .ptr 5 [], .dead, .dead, .dead, .dead, .dead, .dead, .dead, .dead, .dead, .dead, .dead, .dead, .dead, .dead, .dead, .dead, .dead, .dead, .dead, .dead, .dead, .dead, .dead, .dead, .dead, .dead, .dead, .dead, .dead, .dead, .dead, .dead, .dead, .dead, .dead, .dead, .dead, .dead, .dead, .dead, .dead, .dead, .dead, .dead, .dead, .dead, .dead, .dead, .dead, .dead, .dead, .dead, .dead, .dead, .dead, .dead, .dead, .dead, .dead, .dead, .dead, .dead, .dead, .dead, .dead, .dead, .dead, .dead, .dead, .dead, .dead, .dead, .dead, .dead, .dead, .dead, .dead, .dead, .dead, .dead, .dead, .dead, .dead, .dead, .dead, .dead, .dead, .dead, .dead, .dead, .dead, .dead, .dead, .dead, .dead, .dead, .dead, .dead, .dead, .dead, .dead, .dead, .dead, .dead, .dead, .dead, .dead, .dead, .dead], [.box (.cons (.int .u64) (.cons (.int .u64) (.cons (.int .u64) (.cons (.int .u64) (.cons (.int .u64) (.cons (.int .u64) (.cons (.int .i64) (.cons (.sl (.int .i64)) .nil)))))))) (.pl (.cons (.int .u64) (.cons (.int .u64) (.cons (.int .u64) (.cons (.int .u64) (.cons (.int .u64) (.cons (.int .u64) (.cons (.int .i64) (.cons (.sl (.int .i64)) .nil))))))))), .box (.cons (.int .u64) (.cons (.int .u64) (.cons (.int .u64) (.cons (.arr 4 (.int .u64)) (.cons (.int .u64) (.cons (.arr 4 (.int .u64)) (.cons (.arr 4 (.int .u64)) (.cons (.int .u64) (.cons (.sl (.int .u8)) .nil))))))))) (.pl (.cons (.int .u64) (.cons (.int .u64) (.cons (.int .u64) (.cons (.arr 4 (.int .u64)) (.cons (.int .u64) (.cons (.arr 4 (.int .u64)) (.cons (.arr 4 (.int .u64)) (.cons (.int .u64) (.cons (.sl (.int .u8)) .nil)))))))))), .box (.arr 4 (.int .u64)) (.pl (.arr 4 (.int .u64))), .box (.arr 4 (.int .u64)) (.pl (.arr 4 (.int .u64))), .box (.arr 4 (.int .u64)) (.pl (.arr 4 (.int .u64))), .box (.cons (.int .u64) (.cons (.int .u64) (.cons (.int .u64) (.cons (.arr 4 (.int .u64)) (.cons (.int .u64) (.cons (.arr 4 (.int .u64)) (.cons (.arr 4 (.int .u64)) (.cons (.int .u64) (.cons (.sl (.int .u8)) .nil))))))))) (.pl (.cons (.int .u64) (.cons (.int .u64) (.cons (.int .u64) (.cons (.arr 4 (.int .u64)) (.cons (.int .u64) (.cons (.arr 4 (.int .u64)) (.cons (.arr 4 (.int .u64)) (.cons (.int .u64) (.cons (.sl (.int .u8)) .nil))))))))))]⟩) | _, _ => none
theorem ev11 : ∀ x, evalFn env11 ann11 11 ⟨[.pl (.cons (.int .u64) (.cons (.int .u64) (.cons (.int .u64) (.cons (.int .u64) (.cons (.int .u64) (.cons (.int .u64) (.cons (.int .i64) (.cons (.sl (.int .i64)) .nil))))))))], []⟩ ⟨[.pl (.cons (.int .u64) (.cons (.int .u64) (.cons (.int .u64) (.cons (.arr 4 (.int .u64)) (.cons (.int .u64) (.cons (.arr 4 (.int .u64)) (.cons (.arr 4 (.int .u64)) (.cons (.int .u64) (.cons (.sl (.int .u8)) .nil))))))))), .pl (.arr 4 (.int .u64)), .pl (.arr 4 (.int .u64))], []⟩ 60 K0 x = pontagelaw23_build x := by intro x; kernel_rfl
theorem ok11 : ConOk Try.prog 11 pontagelaw23_buildC := con_of_ev (E := env11) (envOk tysOk eqsOk (show HowsOk Try.prog [(15, .con uint256_SaturatingAddC), (20, .con pontagelaw0_ModC), (36, .con pontagelaw0_RepetitiveBytesC), (37, .con pontagelaw0_EdgeUint256C)] from (And.intro ok15 (And.intro ok20 (And.intro ok36 (And.intro ok37 trivial))))) follows) noOddP fun x y h => ⟨ann11, 60, K0, (ev11 x).trans h⟩
/-- pontage/pontagelaw23.TxfeeGasPriceBounds -/
noncomputable def pontagelaw23_TxfeeGasPriceBoundsC : Con := ⟨_, _, pontagelaw23_TxfeeGasPriceBounds⟩
noncomputable def env3 : Env := mkEnv Try.prog tys eqs [(10, .con pontagelaw23_awakeC), (11, .con pontagelaw23_buildC), (12, .con txfee_GasPriceC), (13, .con uint256_CmpC), (14, .con uint256_AddC), (15, .con uint256_SaturatingAddC)]
def ann3 : Anns := fun _ _ => none
theorem ev3 : ∀ x, evalFn env3 ann3 3 ⟨[.pl (.cons (.int .u64) (.cons (.int .u64) (.cons (.int .u64) (.cons (.int .u64) (.cons (.int .u64) (.cons (.int .u64) (.cons (.int .i64) (.cons (.sl (.int .i64)) .nil)))))))), .pl (.int .u64)], []⟩ ⟨[.pl .bool], []⟩ 60 K0 x = pontagelaw23_TxfeeGasPriceBounds x := by intro x; kernel_rfl
theorem ok3 : ConOk Try.prog 3 pontagelaw23_TxfeeGasPriceBoundsC := con_of_ev (E := env3) (envOk tysOk eqsOk (show HowsOk Try.prog [(10, .con pontagelaw23_awakeC), (11, .con pontagelaw23_buildC), (12, .con txfee_GasPriceC), (13, .con uint256_CmpC), (14, .con uint256_AddC), (15, .con uint256_SaturatingAddC)] from (And.intro ok10 (And.intro ok11 (And.intro ok12 (And.intro ok13 (And.intro ok14 (And.intro ok15 trivial))))))) follows) noOddP fun x y h => ⟨ann3, 60, K0, (ev3 x).trans h⟩
end Sym

/- Rules for what a printed function computes. -/
namespace Sym
open Go

/-- The result r has the property T. -/
def Wp {R : Type} (T : R → Prop) (r : R) : Prop := T r

theorem Wp.brn {R : Type} {T : R → Prop} {c : Bool} {t f : R} (h1 : c = true → Wp T t) (h2 : c = false → Wp T f) : Wp T (brn c t f) := by
  cases c
  · exact h2 rfl
  · exact h1 rfl

theorem Wp.brnT {R : Type} {T : R → Prop} {c : Bool} {t f : R} (hc : c = true) (h : Wp T t) : Wp T (Sym.brn c t f) := by subst hc; exact h
theorem Wp.brnF {R : Type} {T : R → Prop} {c : Bool} {t f : R} (hc : c = false) (h : Wp T f) : Wp T (Sym.brn c t f) := by subst hc; exact h

theorem Wp.optF {R Y : Type} {T : R → Prop} {fail : R} {o : Option Y} {k : Y → R} {y : Y} (ho : o = some y) (h : Wp T (k y)) : Wp T (optF fail o k) := by subst ho; exact h

theorem Wp.call {R Y : Type} {T : R → Prop} {fail : R} {o : Option Y} {k : Y → R} {P : Y → Prop} (ho : ∃ y, o = some y ∧ P y) (h : ∀ y, P y → Wp T (k y)) : Wp T (Sym.optF fail o k) := by
  obtain ⟨y, rfl, hp⟩ := ho
  exact h y hp

theorem Wp.jn {X R : Type} {T : R → Prop} {J : X → R} {f : (X → R) → R} (P : X → Prop) (h1 : ∀ x, P x → Wp T (J x)) (h2 : ∀ j : X → R, (∀ x, P x → Wp T (j x)) → Wp T (f j)) : Wp T (jn J f) := h2 J h1

/-- One round. -/
def Rnd {X R : Type} (T : R → Prop) (Inv : X → Prop) (μ : X → Nat) (m : Nat) (s : Stp X R) : Prop :=
  match s with
  | .again y => Inv y ∧ μ y < m
  | .done r => Wp T r

theorem Wp.again {X R : Type} {T : R → Prop} {Inv : X → Prop} {μ : X → Nat} {m : Nat} {y : X} (h1 : Inv y) (h2 : μ y < m) : Wp (Rnd T Inv μ m) (.again y : Stp X R) := ⟨h1, h2⟩
theorem Wp.done {X R : Type} {T : R → Prop} {Inv : X → Prop} {μ : X → Nat} {m : Nat} {r : R} (h : Wp T r) : Wp (Rnd T Inv μ m) (.done r : Stp X R) := h

theorem Wp.iter {X R : Type} {T : R → Prop} {fail : R} {f : X → Stp X R} {x : X} (Inv : X → Prop) (μ : X → Nat) {k : Nat} (h : ∀ x, Inv x → Wp (Rnd T Inv μ (μ x)) (f x)) (hi : Inv x) (hm : μ x < k) : Wp T (iter fail f k x) := by
  induction k generalizing x with
  | zero => omega
  | succ k ih =>
    have h1 := h x hi
    unfold Sym.iter
    cases hf : f x with
    | again y =>
      rw [hf] at h1
      exact ih h1.1 (Nat.lt_of_lt_of_le h1.2 (by omega))
    | done r =>
      rw [hf] at h1
      exact h1

/-- Behind one round. -/
def Nxt {X R : Type} (T : R → Prop) (fail : R) (f : X → Stp X R) (k : Nat) (s : Stp X R) : Prop :=
  match s with
  | .again y => Wp T (Sym.iter fail f k y)
  | .done r => Wp T r

theorem Wp.unroll {X R : Type} {T : R → Prop} {fail : R} {f : X → Stp X R} {x : X} {k : Nat} (h : Wp (Nxt T fail f k) (f x)) : Wp T (Sym.iter fail f (k + 1) x) := by
  unfold Sym.iter
  cases hf : f x with
  | again y => rw [hf] at h; exact h
  | done r => rw [hf] at h; exact h
theorem Wp.next {X R : Type} {T : R → Prop} {fail : R} {f : X → Stp X R} {y : X} {k : Nat} (h : Wp T (Sym.iter fail f k y)) : Wp (Nxt T fail f k) (.again y) := h
theorem Wp.stop {X R : Type} {T : R → Prop} {fail : R} {f : X → Stp X R} {r : R} {k : Nat} (h : Wp T r) : Wp (Nxt T fail f k) (.done r) := h

theorem Wp.some {Y : Type} {T : Y → Prop} {y : Y} (h : T y) : Wp (fun o : Option Y => ∃ y, o = some y ∧ T y) (some y) := ⟨y, rfl, h⟩
theorem Wp.out {R : Type} {T : R → Prop} {r : R} (h : Wp T r) : T r := h

/-! Whole numbers of a kind. -/
theorem I.of_val {k : IntKind} {n : Int} (h : k.min ≤ n ∧ n ≤ k.max) : (I.of k n).val = n := wrap_eq_of_range h

theorem of_u64 {n : Int} (h : 0 ≤ n ∧ n < 18446744073709551616) : (I.of .u64 n).val = n := I.of_val ⟨by simp [IntKind.min, IntKind.signed]; omega, by simp [IntKind.max, IntKind.bits, IntKind.signed]; omega⟩
theorem of_i64 {n : Int} (h : -9223372036854775808 ≤ n ∧ n < 9223372036854775808) : (I.of .i64 n).val = n := I.of_val ⟨by simp [IntKind.min, IntKind.bits, IntKind.signed]; omega, by simp [IntKind.max, IntKind.bits, IntKind.signed]; omega⟩
theorem of_u8 {n : Int} (h : 0 ≤ n ∧ n < 256) : (I.of .u8 n).val = n := I.of_val ⟨by simp [IntKind.min, IntKind.signed]; omega, by simp [IntKind.max, IntKind.bits, IntKind.signed]; omega⟩

theorem u64_range (x : I .u64) : 0 ≤ x.val ∧ x.val < 18446744073709551616 := I_range x
theorem i64_range (x : I .i64) : -9223372036854775808 ≤ x.val ∧ x.val < 9223372036854775808 := by
  have h := x.ok
  have h1 : (2 ^ IntKind.i64.bits : Int) = 18446744073709551616 := by decide
  have h2 : (2 ^ (IntKind.i64.bits - 1) : Int) = 9223372036854775808 := by decide
  have h3 : IntKind.i64.signed = true := rfl
  simp only [IntKind.wrap, h1, h2, h3, Bool.true_and, decide_eq_true_eq] at h
  split at h <;> omega
theorem u8_range (x : I .u8) : 0 ≤ x.val ∧ x.val < 256 := by
  have h := x.ok
  simp only [IntKind.wrap, IntKind.bits, IntKind.signed, Bool.false_and, Bool.false_eq_true, if_false] at h
  omega

theorem iff_ltb {k : IntKind} {a b : I k} : I.ltb a b = true ↔ a.val < b.val := by simp [I.ltb]
theorem iff_leb {k : IntKind} {a b : I k} : I.leb a b = true ↔ a.val ≤ b.val := by simp [I.leb]
theorem iff_eqb {k : IntKind} {a b : I k} : I.eqb a b = true ↔ a.val = b.val := by simp [I.eqb]
theorem iff_neb {k : IntKind} {a b : I k} : I.neb a b = true ↔ a.val ≠ b.val := by simp [I.neb]
theorem niff_ltb {k : IntKind} {a b : I k} : I.ltb a b = false ↔ b.val ≤ a.val := by simp [I.ltb]
theorem niff_leb {k : IntKind} {a b : I k} : I.leb a b = false ↔ b.val < a.val := by simp [I.leb]
theorem niff_eqb {k : IntKind} {a b : I k} : I.eqb a b = false ↔ a.val ≠ b.val := by simp [I.eqb]
theorem niff_neb {k : IntKind} {a b : I k} : I.neb a b = false ↔ a.val = b.val := by simp [I.neb]
theorem iff_nz {k : IntKind} {a : I k} : I.nz a = true ↔ a.val ≠ 0 := by simp [I.nz]
theorem iff_nn {k : IntKind} {a : I k} : I.nn a = true ↔ 0 ≤ a.val := by simp [I.nn]
theorem iff_inB {k : IntKind} {a : I k} {n : Nat} : inB a n = true ↔ 0 ≤ a.val ∧ a.val < n := by simp [inB]
theorem iff_fits {n : Nat} : fitsLen n = true ↔ n ≤ 1073741824 := by simp [fitsLen]

theorem I.eq_of {k : IntKind} {a b : I k} (h : I.eqb a b = true) : a = b := I.ext' (iff_eqb.1 h)
theorem ofNat_i64 {n : Nat} (h : n < 9223372036854775808) : (I.ofNat .i64 n).val = n := of_i64 ⟨by omega, by omega⟩
theorem add_i64 {a b : I .i64} (h : -9223372036854775808 ≤ a.val + b.val ∧ a.val + b.val < 9223372036854775808) : (I.add a b).val = a.val + b.val := of_i64 h
theorem sub_i64 {a b : I .i64} (h : -9223372036854775808 ≤ a.val - b.val ∧ a.val - b.val < 9223372036854775808) : (I.sub a b).val = a.val - b.val := of_i64 h
theorem mul_i64 {a b : I .i64} (h : -9223372036854775808 ≤ a.val * b.val ∧ a.val * b.val < 9223372036854775808) : (I.mul a b).val = a.val * b.val := of_i64 h
theorem rem_i64 {a b : I .i64} (h : 0 ≤ a.val) (h2 : 0 < b.val) : (I.rem a b).val = a.val % b.val := by
  have ha := i64_range a
  have hb := i64_range b
  have e : a.val.tmod b.val = a.val % b.val := Int.tmod_eq_emod_of_nonneg h
  have h3 := Int.emod_nonneg a.val (b := b.val) (by omega)
  have h4 := Int.emod_lt_of_pos a.val h2
  unfold I.rem
  rw [e]
  exact of_i64 ⟨by omega, by omega⟩
theorem quo_i64 {a b : I .i64} (h : 0 ≤ a.val) (h2 : 0 < b.val) : (I.quo a b).val = a.val / b.val := by
  have ha := i64_range a
  have e : a.val.tdiv b.val = a.val / b.val := Int.tdiv_eq_ediv_of_nonneg h
  have h3 : 0 ≤ a.val / b.val := Int.ediv_nonneg h (by omega)
  have h4 : a.val / b.val ≤ a.val := Int.ediv_le_self _ h
  unfold I.quo
  rw [e]
  exact of_i64 ⟨by omega, by omega⟩
theorem add_u64 {a b : I .u64} (h : a.val + b.val < 18446744073709551616) : (I.add a b).val = a.val + b.val := of_u64 ⟨by have := u64_range a; have := u64_range b; omega, h⟩
theorem sub_u64 {a b : I .u64} (h : b.val ≤ a.val) : (I.sub a b).val = a.val - b.val := of_u64 ⟨by omega, by have := u64_range a; have := u64_range b; omega⟩
theorem rem_u64 {a b : I .u64} (h2 : b.val ≠ 0) : (I.rem a b).val = a.val % b.val := by
  have ha := u64_range a
  have hb := u64_range b
  have e : a.val.tmod b.val = a.val % b.val := Int.tmod_eq_emod_of_nonneg ha.1
  have h3 := Int.emod_nonneg a.val (b := b.val) (by omega)
  have h4 := Int.emod_lt_of_pos a.val (b := b.val) (by omega)
  unfold I.rem
  rw [e]
  exact of_u64 ⟨by omega, by omega⟩
theorem quo_u64 {a b : I .u64} : (I.quo a b).val = a.val / b.val := by
  have ha := u64_range a
  have hb := u64_range b
  have e : a.val.tdiv b.val = a.val / b.val := Int.tdiv_eq_ediv_of_nonneg ha.1
  have h3 : 0 ≤ a.val / b.val := Int.ediv_nonneg ha.1 hb.1
  have h4 : a.val / b.val ≤ a.val := Int.ediv_le_self _ ha.1
  unfold I.quo
  rw [e]
  exact of_u64 ⟨by omega, by omega⟩
theorem nn_u64 (a : I .u64) : I.nn a = true := iff_nn.2 (u64_range a).1
/-- A power of two by a shift of one. -/
theorem shl_one {a : I .u64} (h : a.val < 64) : (I.shl (I.of .u64 1) a).val = 2 ^ a.val.toNat := by
  have ha := u64_range a
  have hm : min a.val.toNat IntKind.u64.bits = a.val.toNat := by
    have : IntKind.u64.bits = 64 := rfl
    omega
  have h1 : (I.of .u64 1).val = 1 := rfl
  unfold I.shl
  rw [hm, h1, Int.one_mul]
  refine of_u64 ⟨Int.le_of_lt (Int.pow_pos (by decide)), ?_⟩
  have h3 : 2 ^ a.val.toNat ≤ 2 ^ 63 := Nat.pow_le_pow_right (by decide) (by omega)
  have h4 : ((2 ^ a.val.toNat : Nat) : Int) = 2 ^ a.val.toNat := by simp
  rw [← h4]
  omega
end Sym

/- The law of the gas price's bounds, of the plain functions. -/
namespace Sym
open Go

def minS (a b : U) : U := if b.val < a.val then b else a

theorem K0_two : ∃ k, K0 = k + 2 := ⟨2 ^ 64 - 2, by rw [K0_eq]⟩

theorem uint256_Min_eq (a b : U) : uint256_Min ((a, [b], ()), ()) = some ((minS a b, ()), ()) := by
  obtain ⟨k, hk⟩ := K0_two
  refine Wp.out (T := fun o => o = some ((minS a b, ()), ())) ?_
  unfold uint256_Min
  rw [hk]
  refine Wp.unroll ?_
  refine Wp.brnT rfl ?_
  refine Wp.brnT rfl ?_
  refine Wp.optF (uint256_Cmp_eq b a) ?_
  unfold cmpS minS
  by_cases h : b.val < a.val
  · rw [if_pos h, if_pos h]
    refine Wp.brnT rfl ?_
    refine Wp.next (Wp.unroll ?_)
    refine Wp.brnF rfl ?_
    exact rfl
  · rw [if_neg h, if_neg h]
    refine Wp.brnF ?_ ?_
    · split <;> rfl
    · refine Wp.next (Wp.unroll ?_)
      refine Wp.brnF rfl ?_
      exact rfl

def gasS (t : U × U) (base : U) : U × I .i64 :=
  if base.val ≤ t.1.val then (U.of (base.val + min t.2.val (t.1.val - base.val)), I.of .i64 0) else (U.of 0, I.of .i64 12)

theorem neb00 : I.neb (I.of .i64 0) (I.of .i64 0) = false := rfl
theorem neb40 : I.neb (I.of .i64 4) (I.of .i64 0) = true := rfl

theorem minS_val (a b : U) : (minS a b).val = min a.val b.val := by
  unfold minS
  split <;> omega

theorem txfee_GasPrice_eq (f1 f2 f3 f5 f8 f9) (v c t base : U) : txfee_GasPrice (((f1, f2, f3, v, f5, c, t, f8, f9, ()), base, ()), ()) = some (((gasS (c, t) base).1, (gasS (c, t) base).2, ()), ()) := by
  refine Wp.out (T := fun o => o = some (((gasS (c, t) base).1, (gasS (c, t) base).2, ()), ())) ?_
  unfold txfee_GasPrice gasS
  refine Wp.optF (uint256_Sub_eq c base) ?_
  unfold subS
  by_cases h : base.val ≤ c.val
  · have hc := c.lt
    rw [if_pos h, if_pos h]
    refine Wp.brnF rfl ?_
    refine Wp.optF (uint256_Min_eq t _) ?_
    refine Wp.optF (uint256_Add_eq base _) ?_
    have e : (minS t (U.of (c.val - base.val))).val = min t.val (c.val - base.val) := by
      rw [minS_val, U.val_of (by omega)]
    have h2 : base.val + min t.val (c.val - base.val) < U.top := by omega
    show _ = _
    dsimp only
    have h3 : addS base (minS t (U.of (c.val - base.val))) = (U.of (base.val + min t.val (c.val - base.val)), I.of .i64 0) := by
      unfold addS
      rw [e, if_pos h2]
    rw [h3]
    rfl
  · rw [if_neg h, if_neg h]
    refine Wp.brnT rfl ?_
    rfl

theorem pontagelaw23_awake_eq : pontagelaw23_awake ((), ()) = some ((true, ()), ()) := by
  refine Wp.out (T := fun o => o = some ((true, ()), ())) ?_
  unfold pontagelaw23_awake
  refine Wp.optF (txfee_GasPrice_eq _ _ _ _ _ _ _ _ _ _) ?_
  refine Wp.optF (txfee_GasPrice_eq _ _ _ _ _ _ _ _ _ _) ?_
  refine Wp.brnT (by kernel_rfl) ?_
  refine Wp.brnT (by kernel_rfl) ?_
  show _ = _
  kernel_rfl

theorem pontagelaw0_Mod_ok (x n : I .i64) (h : 0 < n.val) : ∃ y : I .i64, pontagelaw0_Mod ((x, n, ()), ()) = some ((y, ()), ()) ∧ 0 ≤ y.val ∧ y.val < n.val := by
  have hn := i64_range n
  have e : (I.conv .u64 n).val = n.val := of_u64 ⟨by omega, by omega⟩
  have hx := u64_range (I.conv .u64 x)
  have er : (I.rem (I.conv .u64 x) (I.conv .u64 n)).val = (I.conv .u64 x).val % n.val := by rw [rem_u64 (by omega), e]
  have h3 := Int.emod_nonneg (I.conv .u64 x).val (b := n.val) (by omega)
  have h4 := Int.emod_lt_of_pos (I.conv .u64 x).val (b := n.val) (by omega)
  have ec : (I.conv .i64 (I.rem (I.conv .u64 x) (I.conv .u64 n))).val = (I.conv .u64 x).val % n.val := by
    show (I.of .i64 _).val = _
    rw [er]
    exact of_i64 ⟨by omega, by omega⟩
  refine ⟨I.conv .i64 (I.rem (I.conv .u64 x) (I.conv .u64 n)), ?_, by omega, by omega⟩
  refine Wp.out (T := fun o => o = _) ?_
  unfold pontagelaw0_Mod
  refine Wp.brnT (iff_nz.2 ?_) rfl
  show (I.conv .u64 n).val ≠ 0
  omega

theorem pontagelaw0_EdgeUint256_ok (a b : I .u64) (c : I .i64) : ∃ y, pontagelaw0_EdgeUint256 ((a, b, c, ()), ()) = some y := by
  refine Wp.out (T := fun o => ∃ y, o = some y) ?_
  unfold pontagelaw0_EdgeUint256
  obtain ⟨y, hy, _⟩ := pontagelaw0_Mod_ok c (I.of .i64 9) (by decide)
  refine Wp.optF hy ?_
  repeat' (first | exact ⟨_, rfl⟩ | refine Wp.brn (fun _ => ?_) (fun _ => ?_))
  · rename_i h
    have h2 := nn_u64 (I.rem b (I.of .u64 64))
    exact absurd (h2.symm.trans h) (by decide)

theorem uint256_SaturatingAdd_ok (a b : U) : uint256_SaturatingAdd ((a, b, ()), ()) = some ((U.of (min (a.val + b.val) (U.top - 1)), ()), ()) := by
  refine Wp.out (T := fun o => o = some ((U.of (min (a.val + b.val) (U.top - 1)), ()), ())) ?_
  unfold uint256_SaturatingAdd
  refine Wp.optF (uint256_Add_eq a b) ?_
  unfold addS
  have ha := a.lt
  by_cases h : a.val + b.val < U.top
  · rw [if_pos h]
    refine Wp.brnT rfl ?_
    show _ = _
    rw [Nat.min_eq_left (by omega)]
    rfl
  · rw [if_neg h]
    refine Wp.brnF rfl ?_
    refine Wp.optF rfl ?_
    show _ = _
    rw [Nat.min_eq_right (by omega)]
    kernel_rfl
end Sym

/- The law of the gas price's bounds: bytes, numbers, the law. -/
namespace Sym
open Go

theorem app_one_len {X : Type} (l : List X) (x : X) : (appL l [x]).length = l.length + 1 := by simp [appL]

theorem RepetitiveBytes_ok (v : List (I .i64)) (hv : v.length ≤ 1000) : ∃ out : List (I .u8), pontagelaw0_RepetitiveBytes ((v, ()), ()) = some ((out, ()), ()) ∧ out.length ≤ 24 * v.length := by
  have key : Wp (fun o => ∃ out : List (I .u8), o = some ((out, ()), ()) ∧ out.length ≤ 24 * v.length) (pontagelaw0_RepetitiveBytes ((v, ()), ())) := by
    have c1 : (I.of .i64 1).val = 1 := rfl
    have c8 : (I.of .i64 8).val = 8 := rfl
    have c24 : (I.of .i64 24).val = 24 := rfl
    have c64 : (I.of .i64 64).val = 64 := rfl
    have c20 : (I.of .i64 1048576).val = 1048576 := rfl
    have c0 : (I.of .i64 0).val = 0 := rfl
    have hlen : (I.ofNat .i64 (lenL v)).val = v.length := ofNat_i64 (by show v.length < _; omega)
    unfold pontagelaw0_RepetitiveBytes
    refine Wp.iter (fun x => x.1.1 = v ∧ 0 ≤ x.1.2.1.val ∧ x.1.2.1.val ≤ (v.length : Int) ∧ (x.2.1.length : Int) ≤ 24 * x.1.2.1.val) (fun x => ((v.length : Int) - x.1.2.1.val).toNat) ?_ ?_ ?_
    · rintro ⟨⟨l, i, ⟨⟩⟩, out, ⟨⟩⟩ ⟨hl, hi0, hi1, ho⟩
      simp only at hl hi0 hi1 ho
      subst hl
      refine Wp.brn (fun h => ?_) (fun h => ?_)
      · have h := iff_ltb.1 h
        simp only [hlen] at h
        have hstep : (I.add i (I.of .i64 1)).val = i.val + 1 := by rw [add_i64 (by omega)]; omega
        refine Wp.brnT (iff_inB.2 ⟨hi0, by simpa [lenL] using h⟩) ?_
        obtain ⟨y, hy, hy0, hy1⟩ := pontagelaw0_Mod_ok (rdL (I.of .i64 0) l (I.nat i)) (I.of .i64 1048576) (by decide)
        refine Wp.optF hy ?_
        have q8 : (I.quo y (I.of .i64 8)).val = y.val / 8 := quo_i64 hy0 (by decide)
        have r24 : (I.rem (I.quo y (I.of .i64 8)) (I.of .i64 24)).val = y.val / 8 % 24 := by rw [rem_i64 (by omega) (by decide), q8]; rfl
        have hn : (I.add (I.of .i64 1) (I.rem (I.quo y (I.of .i64 8)) (I.of .i64 24))).val = 1 + y.val / 8 % 24 := by rw [add_i64 (by omega)]; omega
        have hn2 : 1 ≤ (I.add (I.of .i64 1) (I.rem (I.quo y (I.of .i64 8)) (I.of .i64 24))).val ∧ (I.add (I.of .i64 1) (I.rem (I.quo y (I.of .i64 8)) (I.of .i64 24))).val ≤ 24 := by omega
        generalize I.add (I.of .i64 1) (I.rem (I.quo y (I.of .i64 8)) (I.of .i64 24)) = n at hn2
        refine Wp.jn (fun x => x.1.1 = l ∧ x.1.2.1 = i ∧ x.1.2.2.1 = y ∧ x.1.2.2.2.1 = n ∧ x.2.1 = out) ?_ ?_
        · rintro ⟨⟨l', i', y', n', m, b, ⟨⟩⟩, out', ⟨⟩⟩ ⟨e1, e2, e3, e4, e5⟩
          simp only at e1 e2 e3 e4 e5
          subst e1 e2 e3 e4 e5
          refine Wp.brn (fun _ => ?_) (fun _ => ?_)
          · refine Wp.iter (fun x => x.1.1 = l' ∧ x.1.2.1 = i' ∧ x.1.2.2.2.1 = n' ∧ 0 ≤ x.1.2.2.2.2.1.val ∧ x.1.2.2.2.2.1.val ≤ n'.val ∧ (x.2.1.length : Int) ≤ 24 * i'.val + x.1.2.2.2.2.1.val) (fun x => (n'.val - x.1.2.2.2.2.1.val).toNat) ?_ ⟨rfl, rfl, rfl, by show 0 ≤ (I.of .i64 0).val; decide, by show (I.of .i64 0).val ≤ n'.val; omega, by show (out'.length : Int) ≤ 24 * i'.val + (I.of .i64 0).val; omega⟩ (by rw [K0_eq]; show (n'.val - (I.of .i64 0).val).toNat < _; omega)
            rintro ⟨⟨l2, i2, y2, n2, j, ⟨⟩⟩, out2, ⟨⟩⟩ ⟨e1, e2, e3, hj0, hj1, ho2⟩
            simp only at e1 e2 e3 hj0 hj1 ho2
            subst e1 e2 e3
            refine Wp.brn (fun h => ?_) (fun h => ?_)
            · have h := iff_ltb.1 h
              simp only at h
              have hj : (I.add j (I.of .i64 1)).val = j.val + 1 := by rw [add_i64 (by omega)]; omega
              refine Wp.brnT (iff_fits.2 ?_) ?_
              · show (appL out2 [_]).length ≤ _
                rw [app_one_len]; omega
              · refine Wp.again ⟨rfl, rfl, rfl, ?_, ?_, ?_⟩ ?_
                · show 0 ≤ (I.add j (I.of .i64 1)).val; omega
                · show (I.add j (I.of .i64 1)).val ≤ _; omega
                · show ((appL out2 [_]).length : Int) ≤ _ + (I.add j (I.of .i64 1)).val
                  rw [app_one_len]; omega
                · show (_ - (I.add j (I.of .i64 1)).val).toNat < _
                  simp only; omega
            · refine Wp.done (Wp.again ⟨rfl, ?_, ?_, ?_⟩ ?_)
              · show 0 ≤ (I.add i2 (I.of .i64 1)).val; omega
              · show (I.add i2 (I.of .i64 1)).val ≤ _; omega
              · show (out2.length : Int) ≤ 24 * (I.add i2 (I.of .i64 1)).val; omega
              · show (_ - (I.add i2 (I.of .i64 1)).val).toNat < _
                simp only; omega
          · refine Wp.jn (fun x => x.1.1 = l' ∧ x.1.2.1 = i' ∧ x.1.2.2.1 = y' ∧ x.1.2.2.2.1 = n' ∧ x.2.1 = out') ?_ ?_
            · rintro ⟨⟨l3, i3, y3, n3, b3, ⟨⟩⟩, out3, ⟨⟩⟩ ⟨e1, e2, e3, e4, e5⟩
              simp only at e1 e2 e3 e4 e5
              subst e1 e2 e3 e4 e5
              refine Wp.brn (fun _ => ?_) (fun _ => ?_)
              · refine Wp.jn (fun x => x.1.1 = l3 ∧ x.1.2.1 = i3 ∧ x.1.2.2.1 = n3 ∧ x.2.1 = out3 ∧ 0 ≤ x.1.2.2.2.1.val ∧ x.1.2.2.2.1.val ≤ 24 * (l3.length : Int)) ?_ ?_
                · rintro ⟨⟨l4, i4, n4, fr, ⟨⟩⟩, out4, ⟨⟩⟩ ⟨e1, e2, e4, e5, hf0, hf1⟩
                  simp only at e1 e2 e4 e5 hf0 hf1
                  subst e1 e2 e4 e5
                  refine Wp.iter (fun x => x.1.1 = l4 ∧ x.1.2.1 = i4 ∧ x.1.2.2.1 = n4 ∧ x.1.2.2.2.1 = fr ∧ 0 ≤ x.1.2.2.2.2.1.val ∧ x.1.2.2.2.2.1.val ≤ n4.val ∧ (x.2.1.length : Int) ≤ 24 * i4.val + x.1.2.2.2.2.1.val) (fun x => (n4.val - x.1.2.2.2.2.1.val).toNat) ?_ ⟨rfl, rfl, rfl, rfl, by show 0 ≤ (I.of .i64 0).val; decide, by show (I.of .i64 0).val ≤ n4.val; omega, by show (out4.length : Int) ≤ 24 * i4.val + (I.of .i64 0).val; omega⟩ (by rw [K0_eq]; show (n4.val - (I.of .i64 0).val).toNat < _; omega)
                  rintro ⟨⟨l2, i2, n2, f2, j, ⟨⟩⟩, out2, ⟨⟩⟩ ⟨e1, e2, e3, e4, hj0, hj1, ho2⟩
                  simp only at e1 e2 e3 e4 hj0 hj1 ho2
                  subst e1 e2 e3 e4
                  have o1 : 0 ≤ (I.add i2 (I.of .i64 1)).val := by omega
                  have o2 : (I.add i2 (I.of .i64 1)).val ≤ (l2.length : Int) := by omega
                  have o3 : (out2.length : Int) ≤ 24 * (I.add i2 (I.of .i64 1)).val := by omega
                  have o4 : ((l2.length : Int) - (I.add i2 (I.of .i64 1)).val).toNat < ((l2.length : Int) - i2.val).toNat := by omega
                  refine Wp.brn (fun h => ?_) (fun h => Wp.done (Wp.again ⟨rfl, o1, o2, o3⟩ o4))
                  have h := iff_ltb.1 h
                  simp only at h
                  have hj : (I.add j (I.of .i64 1)).val = j.val + 1 := by rw [add_i64 (by omega)]; omega
                  have hfj : (I.add f2 j).val = f2.val + j.val := by rw [add_i64 (by omega)]
                  have hol : (I.ofNat .i64 (lenL out2)).val = out2.length := ofNat_i64 (by show out2.length < _; omega)
                  refine Wp.brn (fun h2 => ?_) (fun h2 => Wp.done (Wp.again ⟨rfl, o1, o2, o3⟩ o4))
                  have h2 := iff_ltb.1 h2
                  simp only [hfj, hol] at h2
                  refine Wp.brnT (iff_inB.2 ⟨by show 0 ≤ (I.add f2 j).val; omega, by show (I.add f2 j).val < (out2.length : Int); omega⟩) ?_
                  refine Wp.brnT (iff_fits.2 ?_) ?_
                  · show (appL out2 [_]).length ≤ _
                    rw [app_one_len]; omega
                  · refine Wp.again ⟨rfl, rfl, rfl, rfl, ?_, ?_, ?_⟩ ?_
                    · show 0 ≤ (I.add j (I.of .i64 1)).val; omega
                    · show (I.add j (I.of .i64 1)).val ≤ _; omega
                    · show ((appL out2 [_]).length : Int) ≤ _ + (I.add j (I.of .i64 1)).val
                      rw [app_one_len]; omega
                    · show (_ - (I.add j (I.of .i64 1)).val).toNat < _
                      simp only; omega
                · intro j4 hj4
                  have hol : (I.ofNat .i64 (lenL out3)).val = out3.length := ofNat_i64 (by show out3.length < _; omega)
                  refine Wp.brn (fun h => ?_) (fun h => ?_)
                  · have h := iff_ltb.1 h
                    simp only [hol] at h
                    refine Wp.brnT (iff_nz.2 ?_) ?_
                    · show (I.ofNat .i64 (lenL out3)).val ≠ 0
                      omega
                    · have q64 : (I.quo y3 (I.of .i64 64)).val = y3.val / 64 := quo_i64 hy0 (by decide)
                      have hr : (I.rem (I.quo y3 (I.of .i64 64)) (I.ofNat .i64 (lenL out3))).val = y3.val / 64 % out3.length := by rw [rem_i64 (by omega) (by omega), q64, hol]
                      refine hj4 _ ⟨rfl, rfl, rfl, rfl, ?_, ?_⟩
                      · show 0 ≤ (I.rem (I.quo y3 (I.of .i64 64)) (I.ofNat .i64 (lenL out3))).val
                        rw [hr]
                        exact Int.emod_nonneg _ (by omega)
                      · show (I.rem (I.quo y3 (I.of .i64 64)) (I.ofNat .i64 (lenL out3))).val ≤ _
                        rw [hr]
                        have := Int.emod_lt_of_pos (y3.val / 64) (b := (out3.length : Int)) (by omega)
                        omega
                  · refine hj4 _ ⟨rfl, rfl, rfl, rfl, ?_, ?_⟩
                    · show 0 ≤ (I.of .i64 0).val; omega
                    · show (I.of .i64 0).val ≤ _; omega
              · refine Wp.iter (fun x => x.1.1 = l3 ∧ x.1.2.1 = i3 ∧ x.1.2.2.2.1 = n3 ∧ 0 ≤ x.1.2.2.2.2.1.val ∧ x.1.2.2.2.2.1.val ≤ n3.val ∧ (x.2.1.length : Int) ≤ 24 * i3.val + x.1.2.2.2.2.1.val) (fun x => (n3.val - x.1.2.2.2.2.1.val).toNat) ?_ ⟨rfl, rfl, rfl, by show 0 ≤ (I.of .i64 0).val; decide, by show (I.of .i64 0).val ≤ n3.val; omega, by show (out3.length : Int) ≤ 24 * i3.val + (I.of .i64 0).val; omega⟩ (by rw [K0_eq]; show (n3.val - (I.of .i64 0).val).toNat < _; omega)
                rintro ⟨⟨l2, i2, y2, n2, j, ⟨⟩⟩, out2, ⟨⟩⟩ ⟨e1, e2, e3, hj0, hj1, ho2⟩
                simp only at e1 e2 e3 hj0 hj1 ho2
                subst e1 e2 e3
                refine Wp.brn (fun h => ?_) (fun h => ?_)
                · have h := iff_ltb.1 h
                  simp only at h
                  have hj : (I.add j (I.of .i64 1)).val = j.val + 1 := by rw [add_i64 (by omega)]; omega
                  refine Wp.brnT (nn_u64 _) ?_
                  refine Wp.brnT (iff_fits.2 ?_) ?_
                  · show (appL out2 [_]).length ≤ _
                    rw [app_one_len]; omega
                  · refine Wp.again ⟨rfl, rfl, rfl, ?_, ?_, ?_⟩ ?_
                    · show 0 ≤ (I.add j (I.of .i64 1)).val; omega
                    · show (I.add j (I.of .i64 1)).val ≤ _; omega
                    · show ((appL out2 [_]).length : Int) ≤ _ + (I.add j (I.of .i64 1)).val
                      rw [app_one_len]; omega
                    · show (_ - (I.add j (I.of .i64 1)).val).toNat < _
                      simp only; omega
                · refine Wp.done (Wp.again ⟨rfl, ?_, ?_, ?_⟩ ?_)
                  · show 0 ≤ (I.add i2 (I.of .i64 1)).val; omega
                  · show (I.add i2 (I.of .i64 1)).val ≤ _; omega
                  · show (out2.length : Int) ≤ 24 * (I.add i2 (I.of .i64 1)).val; omega
                  · show (_ - (I.add i2 (I.of .i64 1)).val).toNat < _
                    simp only; omega
            · intro j3 hj3
              refine Wp.brn (fun _ => hj3 _ ⟨rfl, rfl, rfl, rfl, rfl⟩) (fun _ => Wp.brn (fun _ => hj3 _ ⟨rfl, rfl, rfl, rfl, rfl⟩) (fun _ => hj3 _ ⟨rfl, rfl, rfl, rfl, rfl⟩))
        · intro j2 hj2
          exact Wp.brn (fun _ => hj2 _ ⟨rfl, rfl, rfl, rfl, rfl⟩) (fun _ => hj2 _ ⟨rfl, rfl, rfl, rfl, rfl⟩)
      · exact Wp.done ⟨out, rfl, by omega⟩
    · exact ⟨rfl, by show 0 ≤ (I.of .i64 0).val; decide, by show (I.of .i64 0).val ≤ (v.length : Int); omega, by show (([] : List (I .u8)).length : Int) ≤ 24 * (I.of .i64 0).val; simp [c0]⟩
    · rw [K0_eq]
      show ((v.length : Int) - (I.of .i64 0).val).toNat < _
      omega
  exact key.out
end Sym

/- The law of the gas price's bounds. -/
namespace Sym
open Go

theorem nz_shl (x : I .u64) (m : I .u64) (h0 : 0 < m.val) (h1 : m.val ≤ 60) : I.nz (I.shl (k := .u64) (I.of .u64 1) (I.add (I.of .u64 1) (I.rem x m))) = true := by
  have hr : (I.rem x m).val = x.val % m.val := rem_u64 (by omega)
  have h2 := Int.emod_nonneg x.val (b := m.val) (by omega)
  have h3 := Int.emod_lt_of_pos x.val h0
  have c1 : (I.of .u64 1).val = 1 := rfl
  have ha : (I.add (I.of .u64 1) (I.rem x m)).val = 1 + x.val % m.val := by rw [add_u64 (by omega), hr, c1]
  refine iff_nz.2 ?_
  rw [shl_one (by omega)]
  have := Int.pow_pos (n := 2) (m := (I.add (I.of .u64 1) (I.rem x m)).val.toNat) (by decide)
  omega

theorem build_ok (n0 n1 n2 n3 n4 n5 : I .u64) (sh : I .i64) (d : List (I .i64)) (hd : d.length ≤ 1000) : ∃ y, pontagelaw23_build (((n0, n1, n2, n3, n4, n5, sh, d, ()), ()), ()) = some y := by
  have key : Wp (fun o => ∃ y, o = some y) (pontagelaw23_build (((n0, n1, n2, n3, n4, n5, sh, d, ()), ()), ())) := by
    unfold pontagelaw23_build
    refine Wp.brnT (nn_u64 _) (Wp.brnT (nz_shl _ _ (by decide) (by decide)) ?_)
    refine Wp.brnT (nn_u64 _) (Wp.brnT (nz_shl _ _ (by decide) (by decide)) ?_)
    refine Wp.brnT (nn_u64 _) (Wp.brnT (nz_shl _ _ (by decide) (by decide)) ?_)
    refine Wp.optF (uint256_SaturatingAdd_ok _ _) ?_
    refine Wp.brnT (nn_u64 _) (Wp.brnT (nz_shl _ _ (by decide) (by decide)) ?_)
    refine Wp.brnT (nn_u64 _) (Wp.brnT (nz_shl _ _ (by decide) (by decide)) ?_)
    obtain ⟨out, hout, _⟩ := RepetitiveBytes_ok d hd
    refine Wp.optF hout ?_
    refine Wp.jn (fun _ => True) (fun x _ => ?_) (fun j hj => ?_)
    · refine Wp.brnT (nn_u64 _) (Wp.brnT (nz_shl _ _ (by decide) (by decide)) ?_)
      exact ⟨_, rfl⟩
    · obtain ⟨y, hy, _⟩ := pontagelaw0_Mod_ok sh (I.of .i64 8) (by decide)
      refine Wp.optF hy ?_
      refine Wp.brn (fun _ => hj _ trivial) (fun _ => Wp.brn (fun _ => ?_) (fun _ => Wp.brn (fun _ => ?_) (fun _ => Wp.brn (fun _ => hj _ trivial) (fun _ => hj _ trivial))))
      · obtain ⟨e, he⟩ := pontagelaw0_EdgeUint256_ok n2 n1 (I.quo sh (I.of .i64 8))
        exact Wp.optF he (hj _ trivial)
      · obtain ⟨e, he⟩ := pontagelaw0_EdgeUint256_ok n1 n2 (I.quo sh (I.of .i64 8))
        refine Wp.optF he ?_
        obtain ⟨e2, he2⟩ := pontagelaw0_EdgeUint256_ok n2 n1 (I.quo sh (I.of .i64 64))
        exact Wp.optF he2 (hj _ trivial)
  exact key.out

theorem build_ok' (n0 n1 n2 n3 n4 n5 : I .u64) (sh : I .i64) (d : List (I .i64)) (hd : d.length ≤ 1000) : ∃ (f1 f2 f3 f5 f8 : I .u64) (f9 : List (I .u8)) (v cap tip base c : U),
    pontagelaw23_build (((n0, n1, n2, n3, n4, n5, sh, d, ()), ()), ()) = some (((f1, f2, f3, v, f5, cap, tip, f8, f9, ()), base, c, ()), ()) := by
  obtain ⟨⟨⟨t, base, c, ⟨⟩⟩, ⟨⟩⟩, hy⟩ := build_ok n0 n1 n2 n3 n4 n5 sh d hd
  obtain ⟨f1, f2, f3, v, f5, cap, tip, f8, f9, ⟨⟩⟩ := t
  exact ⟨f1, f2, f3, f5, f8, f9, v, cap, tip, base, c, hy⟩

theorem eqb_u256 (a b : U) : Ty.eqb (.arr 4 (.int .u64)) a b = decide (a.val = b.val) := by
  by_cases h : a.val = b.val
  · have := U.ext h
    subst this
    simp [Ty.eqb, Arr.eqb]
  · simp only [h, decide_false]
    cases hb : Ty.eqb (.arr 4 (.int .u64)) a b with
    | false => rfl
    | true =>
      exfalso
      apply h
      obtain ⟨a0, a1, a2, a3, ⟨⟩⟩ := a
      obtain ⟨b0, b1, b2, b3, ⟨⟩⟩ := b
      simp only [Ty.eqb, Arr.eqb, Bool.and_eq_true, decide_eq_true_eq, and_true] at hb
      obtain ⟨h0, h1, h2, h3⟩ := hb
      rw [I.ext' h0, I.ext' h1, I.ext' h2, I.ext' h3]

theorem cmp_le (a b : U) (h : a.val ≤ b.val) : I.leb (cmpS a b) (I.of .i64 0) = true := by
  unfold cmpS
  split
  · rfl
  · rw [if_neg (by omega)]; rfl

theorem cmp_lt (a b : U) (h : a.val < b.val) : I.ltb (cmpS a b) (I.of .i64 0) = true := by
  unfold cmpS
  rw [if_pos h]; rfl

theorem gas_law (n0 n1 n2 n3 n4 n5 : I .u64) (sh : I .i64) (d : List (I .i64)) (more : I .u64) (hd : d.length ≤ LIM) : pontagelaw23_TxfeeGasPriceBounds (((n0, n1, n2, n3, n4, n5, sh, d, ()), more, ()), ()) = some ((true, ()), ()) := by
  have key : Wp (fun o => o = some ((true, ()), ())) (pontagelaw23_TxfeeGasPriceBounds (((n0, n1, n2, n3, n4, n5, sh, d, ()), more, ()), ())) := by
    unfold pontagelaw23_TxfeeGasPriceBounds
    have hl : (I.ofNat .i64 (lenL d)).val = d.length := ofNat_i64 (by show d.length < _; simp only [LIM] at hd; omega)
    refine Wp.brn (fun h => ?_) (fun h => ?_)
    · exact Wp.optF pontagelaw23_awake_eq rfl
    · have h := niff_ltb.1 h
      have hd5 : d.length ≤ 5 := by
        have c5 : (I.of .i64 5).val = 5 := rfl
        have : (I.ofNat .i64 (lenL d)).val ≤ (I.of .i64 5).val := h
        omega
      obtain ⟨f1, f2, f3, f5, f8, f9, v, cap, tip, base, c, hy⟩ := build_ok' n0 n1 n2 n3 n4 n5 sh d (by omega)
      refine Wp.optF hy ?_
      refine Wp.optF (txfee_GasPrice_eq f1 f2 f3 f5 f8 f9 v cap tip base) ?_
      have hcap := U.lt cap
      have htip := U.lt tip
      have hbase := U.lt base
      by_cases hb : U.val base ≤ U.val cap
      · have eg : ∀ t', gasS (cap, t') base = (U.of (base.val + min t'.val (cap.val - base.val)), I.of .i64 0) := fun t' => by unfold gasS; rw [if_pos hb]
        rw [eg tip]
        refine Wp.brnF rfl ?_
        refine Wp.optF (uint256_Add_eq base tip) ?_
        obtain ⟨mo, hmo⟩ : ∃ mo : U, mo = (more, I.of .u64 0, I.of .u64 0, I.of .u64 0, ()) := ⟨_, rfl⟩
        refine Wp.optF ((congrArg (fun z : U => uint256_SaturatingAdd ((tip, z, ()), ())) hmo.symm).trans (uint256_SaturatingAdd_ok tip mo)) ?_
        refine Wp.optF ((congrArg (fun z : U => uint256_SaturatingAdd ((cap, z, ()), ())) hmo.symm).trans (uint256_SaturatingAdd_ok cap mo)) ?_
        generalize mo.val = m
        refine Wp.optF (txfee_GasPrice_eq f1 f2 f3 f5 f8 f9 v cap (U.of (min (tip.val + m) (U.top - 1))) base) ?_
        refine Wp.optF (txfee_GasPrice_eq f1 f2 f3 f5 f8 f9 v (U.of (min (cap.val + m) (U.top - 1))) tip base) ?_
        have ht2 : (U.of (min (tip.val + m) (U.top - 1))).val = min (tip.val + m) (U.top - 1) := U.val_of (by have : U.top = 115792089237316195423570985008687907853269984665640564039457584007913129639936 := rfl; omega)
        have hc2 : (U.of (min (cap.val + m) (U.top - 1))).val = min (cap.val + m) (U.top - 1) := U.val_of (by have : U.top = 115792089237316195423570985008687907853269984665640564039457584007913129639936 := rfl; omega)
        have eg2 : gasS (U.of (min (cap.val + m) (U.top - 1)), tip) base = (U.of (base.val + min tip.val (min (cap.val + m) (U.top - 1) - base.val)), I.of .i64 0) := by
          unfold gasS
          rw [if_pos (by simp only [hc2]; omega)]
          simp only [hc2]
        rw [eg, eg2, ht2]
        have vp : (U.of (base.val + min tip.val (cap.val - base.val))).val = base.val + min tip.val (cap.val - base.val) := U.val_of (by omega)
        have vq : (U.of (base.val + min (min (tip.val + m) (U.top - 1)) (cap.val - base.val))).val = base.val + min (min (tip.val + m) (U.top - 1)) (cap.val - base.val) := U.val_of (by omega)
        have vr : (U.of (base.val + min tip.val (min (cap.val + m) (U.top - 1) - base.val))).val = base.val + min tip.val (min (cap.val + m) (U.top - 1) - base.val) := U.val_of (by omega)
        refine Wp.brnT rfl ?_
        refine Wp.brnT rfl ?_
        refine Wp.optF (uint256_Cmp_eq base _) ?_
        refine Wp.brnT (cmp_le _ _ (by rw [vp]; omega)) ?_
        refine Wp.optF (uint256_Cmp_eq _ cap) ?_
        refine Wp.brnT (cmp_le _ _ (by rw [vp]; omega)) ?_
        refine Wp.brn (fun h => ?_) (fun h => ?_)
        · refine Wp.optF (uint256_Cmp_eq _ _) ?_
          refine Wp.brnT (cmp_le _ _ (by rw [vp, vq]; omega)) ?_
          refine Wp.optF (uint256_Cmp_eq _ _) ?_
          refine Wp.brnT (cmp_le _ _ (by rw [vp, vr]; omega)) ?_
          exact Wp.optF pontagelaw23_awake_eq rfl
        · have hne : U.val (U.of (base.val + min tip.val (cap.val - base.val))) ≠ U.val cap := by
            have h2 := (eqb_u256 (U.of (base.val + min tip.val (cap.val - base.val))) cap).symm.trans h
            exact of_decide_eq_false h2
          rw [vp] at hne
          have ea : addS base tip = (U.of (base.val + tip.val), I.of .i64 0) := by unfold addS; rw [if_pos (by omega)]
          rw [ea]
          refine Wp.brnT rfl ?_
          refine Wp.brnT ((eqb_u256 _ _).trans (decide_eq_true ?_)) ?_
          · rw [vp]
            show _ = U.val (U.of (base.val + tip.val))
            rw [U.val_of (by omega)]; omega
          · refine Wp.optF (uint256_Cmp_eq _ _) ?_
            refine Wp.brnT (cmp_le _ _ (by rw [vp, vq]; omega)) ?_
            refine Wp.optF (uint256_Cmp_eq _ _) ?_
            refine Wp.brnT (cmp_le _ _ (by rw [vp, vr]; omega)) ?_
            exact Wp.optF pontagelaw23_awake_eq rfl
      · have eg : gasS (cap, tip) base = (U.of 0, I.of .i64 12) := by unfold gasS; rw [if_neg hb]
        rw [eg]
        refine Wp.brnT rfl ?_
        refine Wp.brnT rfl ?_
        refine Wp.optF (uint256_Cmp_eq cap base) ?_
        refine Wp.brnT (cmp_lt _ _ (by omega)) ?_
        exact Wp.optF pontagelaw23_awake_eq rfl
  exact key.out
end Sym

/- From what a row reads of the arguments to plain values, and from a contract to the row's answer. -/
namespace Sym
open Go

mutual
def argB (P : Program) : Ty → TypeId → Bool
  | .cons a b, id => match P.underlying id with
    | some (.struct fs) => (match fs.toList with
      | f :: r => argB P a f.type && fargB P b r
      | [] => false)
    | _ => false
  | .arr _ t, id => match P.underlying id with
    | some (.array _ e) => argB P t e
    | _ => false
  | .sl t, id => match P.underlying id with
    | some (.slice e) => Nat.ble 1 t.sz && (Nat.ble 1 (P.bytesOf e) && argB P t e)
    | _ => false
  | .opq, _ => false
  | _, _ => true
def fargB (P : Program) : Ty → List Field → Bool
  | .cons a b, f :: r => argB P a f.type && fargB P b r
  | _, _ => true
end

theorem mapM_some {X Y : Type} {f : X → Option Y} : ∀ {l : List X} {r : List Y}, l.mapM f = some r → r.length = l.length ∧ ∀ (i : Nat) (a : X), l[i]? = some a → ∃ b, r[i]? = some b ∧ f a = some b
  | [], r, h => by
    simp only [List.mapM_nil, Option.pure_def, Option.some.injEq] at h
    subst h
    exact ⟨rfl, fun i a h => by simp at h⟩
  | a :: l, r, h => by
    simp only [List.mapM_cons, Option.bind_eq_bind, Option.bind_eq_some_iff, Option.pure_def, Option.some.injEq] at h
    obtain ⟨b, hb, s, hs, rfl⟩ := h
    obtain ⟨h1, h2⟩ := mapM_some hs
    refine ⟨by simp [h1], fun i x hx => ?_⟩
    cases i with
    | zero =>
      simp only [List.getElem?_cons_zero, Option.some.injEq] at hx
      subst hx
      exact ⟨b, by simp, hb⟩
    | succ i =>
      simp only [List.getElem?_cons_succ] at hx
      obtain ⟨y, h3, h4⟩ := h2 i x hx
      exact ⟨y, by simp [h3], h4⟩

theorem mapM_range {Y : Type} {f : Nat → Option Y} {n : Nat} {r : List Y} (h : (List.range n).mapM f = some r) : r.length = n ∧ ∀ i, i < n → ∃ b, r[i]? = some b ∧ f i = some b := by
  obtain ⟨h1, h2⟩ := mapM_some h
  refine ⟨by simpa using h1, fun i hi => h2 i i (by simp [hi])⟩

theorem exists_list {X : Type} : ∀ (n : Nat) (R : Nat → X → Prop), (∀ i, i < n → ∃ x, R i x) → ∃ l : List X, l.length = n ∧ ∀ i x, l[i]? = some x → R i x
  | 0, _, _ => ⟨[], rfl, fun i x h => by simp at h⟩
  | n + 1, R, h => by
    obtain ⟨x, hx⟩ := h 0 (by omega)
    obtain ⟨l, h1, h2⟩ := exists_list n (fun i x => R (i + 1) x) fun i hi => h (i + 1) (by omega)
    refine ⟨x :: l, by simp [h1], fun i y hy => ?_⟩
    cases i with
    | zero => simp only [List.getElem?_cons_zero, Option.some.injEq] at hy; subst hy; exact hx
    | succ i => exact h2 i y (by simpa using hy)

theorem exists_arr {X : Type} {E : X → List Value → Prop} {s : Nat} : ∀ (n : Nat) (cs : List Value), cs.length = n * s → (∀ i, i < n → ∃ x, E x ((cs.drop (i * s)).take s)) → ∃ x, EncArr E n x cs
  | 0, cs, hl, _ => ⟨(), by simp at hl; exact hl⟩
  | n + 1, cs, hl, h => by
    obtain ⟨x, hx⟩ := h 0 (by omega)
    simp only [Nat.zero_mul, List.drop_zero] at hx
    obtain ⟨y, hy⟩ := exists_arr (E := E) (s := s) n (cs.drop s) (by rw [List.length_drop, hl, Nat.succ_mul]; omega) fun i hi => by
      obtain ⟨z, hz⟩ := h (i + 1) (by omega)
      refine ⟨z, ?_⟩
      rw [List.drop_drop, show s + i * s = (i + 1) * s by rw [Nat.succ_mul]; omega]
      exact hz
    exact ⟨(x, y), cs.take s, cs.drop s, (List.take_append_drop s cs).symm, hx, hy⟩

theorem weightsAll_mem {H : Type} {P : Program} {e : TypeId} : ∀ {ds : List (DataW H)} {i : Nat} {d : DataW H}, ds[i]? = some d → ∀ n ∈ d.weights P e, n ∈ DataW.weightsAll P e ds
  | d0 :: ds, 0, d, hd, n, hn => by
    simp only [List.getElem?_cons_zero, Option.some.injEq] at hd
    subst hd
    simp only [DataW.weightsAll, List.mem_append]
    exact .inl hn
  | d0 :: ds, i + 1, d, hd, n, hn => by
    simp only [List.getElem?_cons_succ] at hd
    simp only [DataW.weightsAll, List.mem_append]
    exact .inr (weightsAll_mem hd n hn)

def strOf (s : ByteArray) : List (I .u8) := s.data.toList.map fun b => I.of .u8 b.toNat

theorem bytesOf_strOf (s : ByteArray) : bytesOf (strOf s) = s := by
  unfold bytesOf strOf
  cases s with | mk a =>
  congr 1
  rw [List.map_map]
  have : ((fun c : I .u8 => UInt8.ofNat c.val.toNat) ∘ fun b : UInt8 => I.of .u8 b.toNat) = id := by
    funext b
    simp only [Function.comp, id, I.of, IntKind.wrap, IntKind.bits, IntKind.signed, Bool.false_and, Bool.false_eq_true, if_false]
    have := b.toNat_lt
    rw [show ((b.toNat : Int) % 2 ^ 8) = (b.toNat : Int) by omega, Int.toNat_natCast]
    exact UInt8.ofNat_toNat
  rw [this, List.map_id, Array.toArray_toList]

section
variable {H : Type} {enc : TypeId × Value → H} {P : Program} {W : World} {base : Nat} {spare : Nat → Bool} {held : Bool}

abbrev GW (W : World) : Nat → Prop := fun r => r < W.heap.size

theorem cell_lt {a : Addr} {v : Value} (h : W.cell? a = some v) : a.spot = none ∧ a.block < W.heap.size := by
  unfold World.cell? at h
  split at h
  · rename_i c _ _ hc
    split at h
    · cases h
    · rename_i hs
      refine ⟨by simpa using hs, ?_⟩
      rw [Array.getElem?_eq_some_iff] at hc
      exact hc.1
  · cases h

theorem cells_row {base : Nat} {a : Addr} {n : Nat} {ds : List Value} (h : W.cells? base a n = some ds) : ds.length = n ∧ ∀ j d, ds[j]? = some d → W.cell? (a.add j) = some d := by
  unfold World.cells? at h
  split at h
  · obtain ⟨h1, h2⟩ := mapM_range h
    refine ⟨h1, fun j d hd => ?_⟩
    obtain ⟨b, h3, h4⟩ := h2 j (by rw [← h1]; exact (List.getElem?_eq_some_iff.1 hd).1)
    rw [h3] at hd
    rw [h4, hd]
  · cases h

theorem addr_add {a : Addr} (hs : a.spot = none) (n : Nat) : a.add n = ⟨a.block, a.off + n, none⟩ := by
  unfold Addr.add
  cases a
  simp only at hs
  subst hs
  split
  · rename_i h; subst h; rfl
  · rfl

theorem enc_of_trod : ∀ (t : Ty),
    (∀ fuel id cs (d : DataW H) (p : List MemPlace), TOk P t id → argB P t id = true → DataW.trod enc P W base spare held fuel id cs = some (d, p) → (∀ n ∈ d.weights P id, n ≤ reachBytes) → ∃ x, Enc W (GW W) t x cs) ∧
    (∀ fuel (r : List Field) (o : Nat) (cs : List Value) (xs : List (DataW H × List MemPlace)), FOk P t r o → fargB P t r = true → xs.length = r.length →
      (∀ (i : Nat) (f : Field), r[i]? = some f → DataW.trod enc P W base spare held fuel f.type ((cs.drop f.offset).take (P.cellsOf f.type)) = xs[i]?) →
      (∀ n ∈ DataW.weightsEach P (r.map (·.type)) (xs.map (·.1)), n ≤ reachBytes) → cs.length = o + t.sz → ∃ x, Enc W (GW W) t x (cs.drop o)) := by
  intro t
  have nofld : ∀ t, (∀ a b, t ≠ .cons a b) → t ≠ .nil → ∀ (r : List Field) (o : Nat), ¬ FOk P t r o := by
    intro t h1 h2 r o h
    cases t <;> first | exact h1 _ _ rfl | exact h2 rfl | (cases r <;> exact h.elim)
  induction t with
  | int k =>
    refine ⟨fun fuel id cs d p hT _ h _ => ?_, fun fuel r o cs xs h => (nofld _ (by simp) (by simp) _ _ h).elim⟩
    obtain ⟨n, hcs, _, hw⟩ := DataW.trod_int hT.2 h
    simp only [Lit.wf, Bool.and_eq_true, decide_eq_true_eq] at hw
    exact ⟨(⟨n, wrap_eq_of_range hw⟩ : I k), hcs⟩
  | bool =>
    refine ⟨fun fuel id cs d p hT _ h _ => ?_, fun fuel r o cs xs h => (nofld _ (by simp) (by simp) _ _ h).elim⟩
    obtain ⟨n, hcs, _⟩ := DataW.trod_bool hT.2 h
    exact ⟨n, hcs⟩
  | str =>
    refine ⟨fun fuel id cs d p hT _ h hw => ?_, fun fuel r o cs xs h => (nofld _ (by simp) (by simp) _ _ h).elim⟩
    obtain ⟨s, hcs, hx, _⟩ := DataW.trod_string hT.2 h
    simp only [Prod.mk.injEq] at hx
    obtain ⟨rfl, rfl⟩ := hx
    refine ⟨strOf s, ?_, ?_⟩
    · rw [bytesOf_strOf]; exact hcs
    · have := hw s.data.toList.length (by simp [DataW.weights])
      have h2 : (strOf s).length = s.data.toList.length := List.length_map _
      show (strOf s).length ≤ LIM
      rw [h2]
      simp only [reachBytes, LIM] at *
      omega
  | nil =>
    refine ⟨fun fuel id cs d p hT _ h hw => ?_, fun fuel r o cs xs h _ _ _ _ hl => ⟨(), ?_⟩⟩
    · obtain ⟨xs, n, _, _, hl, _⟩ := DataW.trod_struct hT.2 h
      rw [hT.1] at hl
      exact ⟨(), List.eq_nil_of_length_eq_zero hl⟩
    · show cs.drop o = []
      simp only [Ty.sz, Nat.add_zero] at hl
      rw [List.drop_eq_nil_iff]; omega
  | cons a b iha ihb =>
    refine ⟨fun fuel id cs d p hT hA h hw => ?_, fun fuel r o cs xs hF hA hlen hf hw hl => ?_⟩
    · obtain ⟨hsz, fs, f, r, hu, hfs, hf0, hTa, hFb⟩ := hT
      obtain ⟨xs, n, _, hx, hl, hlen, hfx⟩ := DataW.trod_struct hu h
      simp only [Prod.mk.injEq] at hx
      obtain ⟨rfl, rfl⟩ := hx
      simp only [argB, hu, hfs, Bool.and_eq_true] at hA
      have hfl : ∀ (i : Nat) (g : Field), (f :: r)[i]? = some g → DataW.trod enc P W base spare held n g.type ((cs.drop g.offset).take (P.cellsOf g.type)) = xs[i]? := by
        intro i g hg
        refine hfx i g ?_
        rw [← Array.getElem?_toList, hfs]
        exact hg
      have hlen' : xs.length = r.length + 1 := by rw [hlen, ← Array.length_toList, hfs]; rfl
      match xs, hlen' with
      | y :: ys, hlen' =>
        simp only [DataW.weights, hu, hfs, List.map_cons, DataW.weightsEach, List.mem_append] at hw
        have h0 := hfl 0 f rfl
        simp only [List.getElem?_cons_zero] at h0
        rw [hf0, hTa.size, List.drop_zero] at h0
        obtain ⟨x, hx⟩ := iha.1 n f.type _ y.1 y.2 hTa hA.1 h0 (fun m hm => hw m (.inl hm))
        obtain ⟨z, hz⟩ := ihb.2 n r a.sz cs ys hFb hA.2 (by simpa using hlen') (fun i g hg => by simpa using hfl (i + 1) g hg) (fun m hm => hw m (.inr hm)) (by rw [hl, hsz])
        exact ⟨(x, z), _, _, (List.take_append_drop a.sz cs).symm, hx, hz⟩
    · cases r with
      | nil => exact hF.elim
      | cons f r =>
        obtain ⟨hf0, hTa, hFb⟩ := hF
        simp only [fargB, Bool.and_eq_true] at hA
        match xs, hlen with
        | y :: ys, hlen =>
          simp only [List.map_cons, DataW.weightsEach, List.mem_append] at hw
          have h0 := hf 0 f rfl
          simp only [List.getElem?_cons_zero] at h0
          rw [hf0, hTa.size] at h0
          simp only [Ty.sz] at hl
          obtain ⟨x, hx⟩ := iha.1 fuel f.type _ y.1 y.2 hTa hA.1 h0 (fun m hm => hw m (.inl hm))
          obtain ⟨z, hz⟩ := ihb.2 fuel r (o + a.sz) cs ys hFb hA.2 (by simpa using hlen) (fun i g hg => by simpa using hf (i + 1) g hg) (fun m hm => hw m (.inr hm)) (by omega)
          refine ⟨(x, z), _, _, (List.take_append_drop a.sz (cs.drop o)).symm, hx, ?_⟩
          rw [List.drop_drop]
          exact hz
  | arr n t ih =>
    refine ⟨fun fuel id cs d p hT hA h hw => ?_, fun fuel r o cs xs h => (nofld _ (by simp) (by simp) _ _ h).elim⟩
    obtain ⟨hsz, e, hu, hTe⟩ := hT
    obtain ⟨xs, m, _, hx, hl, hlen, hfx⟩ := DataW.trod_array hu h
    simp only [Prod.mk.injEq] at hx
    obtain ⟨rfl, rfl⟩ := hx
    simp only [argB, hu] at hA
    simp only [DataW.weights, hu] at hw
    refine exists_arr n cs (by rw [hl, hsz]) fun i hi => ?_
    have h0 := hfx i hi
    rw [hTe.size, List.getElem?_eq_getElem (by omega)] at h0
    refine ih.1 m e _ (xs[i]'(by omega)).1 (xs[i]'(by omega)).2 hTe hA h0 fun k hk => hw k (weightsAll_mem (i := i) ?_ k hk)
    rw [List.getElem?_map, List.getElem?_eq_getElem (by omega)]; rfl
  | sl t ih =>
    refine ⟨fun fuel id cs d p hT hA h hw => ?_, fun fuel r o cs xs h => (nofld _ (by simp) (by simp) _ _ h).elim⟩
    obtain ⟨hsz, e, hu, hTe⟩ := hT
    simp only [argB, hu, Bool.and_eq_true] at hA
    obtain ⟨hA1, hA2, hA⟩ := hA
    have hA1 := Nat.le_of_ble_eq_true hA1
    have hA2 := Nat.le_of_ble_eq_true hA2
    rcases DataW.trod_slice hu h with ⟨rfl, _⟩ | ⟨a, len, cap, elems, rest, m, _, rfl, hx, _, hlc, _, hel, hfx, _, _⟩
    · refine ⟨([] : List t.D), none, 0, rfl, Nat.le_refl _, by simp, .inl rfl⟩
    · simp only [Prod.mk.injEq] at hx
      obtain ⟨rfl, rfl⟩ := hx
      simp only [DataW.weights, hu, List.mem_cons, List.mem_append] at hw
      have hb := hw _ (.inl rfl)
      have hlim : len ≤ LIM := by
        have h1 : len ≤ (elems.length + rest.length) * P.bytesOf e := by
          rw [← hel]
          refine Nat.le_trans ?_ (Nat.mul_le_mul_left _ hA2)
          omega
        simp only [List.length_map] at hb
        simp only [reachBytes, LIM] at *
        omega
      have key : ∀ i, i < len → a.spot = none ∧ a.block < W.heap.size ∧ ∃ x ds, Enc W (GW W) t x ds ∧ cellsAt W a.block (a.off + i * t.sz) ds := by
        have one : ∀ i, i < len → ∃ (ds : List Value) (x : t.D), ds.length = t.sz ∧ Enc W (GW W) t x ds ∧ ∀ j d, ds[j]? = some d → W.cell? ((a.add (i * t.sz)).add j) = some d := by
          intro i hi
          have h0 := hfx i hi
          rw [List.getElem?_eq_getElem (by omega)] at h0
          simp only [Option.bind_eq_some_iff] at h0
          obtain ⟨ds, h1, h2⟩ := h0
          obtain ⟨h3, h4⟩ := cells_row h1
          rw [hTe.size] at h3 h4
          obtain ⟨x, hx⟩ := ih.1 m e ds (elems[i]'(by omega)).1 (elems[i]'(by omega)).2 hTe hA h2 fun k hk => hw k (.inr (.inl (weightsAll_mem (i := i) (by rw [List.getElem?_map, List.getElem?_eq_getElem (by omega)]; rfl) k hk)))
          exact ⟨ds, x, h3, hx, h4⟩
        intro i hi
        obtain ⟨ds, x, h1, h2, h3⟩ := one i hi
        obtain ⟨ds0, _, g1, _, g3⟩ := one 0 (by omega)
        have c0 := g3 0 (ds0[0]'(by omega)) (List.getElem?_eq_getElem _)
        simp only [Nat.zero_mul] at c0
        have e0 : (a.add 0).add 0 = a := by simp [Addr.add]
        rw [e0] at c0
        obtain ⟨hs, hlt⟩ := cell_lt c0
        refine ⟨hs, hlt, x, ds, h2, fun j d hd => ?_⟩
        have := h3 j d hd
        rw [addr_add hs, addr_add rfl] at this
        exact this
      obtain ⟨l, hl1, hl2⟩ := exists_list len (fun i x => ∃ ds, Enc W (GW W) t x ds ∧ cellsAt W a.block (a.off + i * t.sz) ds) fun i hi => (key i hi).2.2
      refine ⟨l, some a, cap, ?_, ?_, ?_, ?_⟩
      · show [Value.slice (some a) len cap] = [Value.slice (some a) l.length cap]; rw [hl1]
      · show l.length ≤ cap; omega
      · show l.length ≤ LIM; omega
      · by_cases h0 : len = 0
        · left; show l = []; exact List.eq_nil_of_length_eq_zero (by omega)
        · obtain ⟨h1, h2, _⟩ := key 0 (by omega)
          exact .inr ⟨a, rfl, h1, h2, hl2⟩
  | opq => exact ⟨fun fuel id cs d p hT hA => by simp [argB] at hA, fun fuel r o cs xs h => (nofld _ (by simp) (by simp) _ _ h).elim⟩
end

/-- What an argument's form leaves of its cells. -/
theorem val_of_ok {P : Program} {W : World} {rr : Reach} {base : Nat} {id : TypeId} {v : Value} {t : Ty} (hT : TOk P t id) (hne : t ≠ .opq) (h : Value.okWide P W rr base id v) : v = mkV t.isAgg v.cells.toList := by
  have agg : (∃ cs, v = .agg cs) → v = mkV true v.cells.toList := by
    rintro ⟨cs, rfl⟩
    show Value.agg cs = .agg _
    congr 1
  cases t with
  | int k => obtain ⟨n, rfl⟩ := Go.WideShapes.okWide_int hT.2 h; rfl
  | bool => obtain ⟨n, rfl⟩ := Go.WideShapes.okWide_bool hT.2 h; rfl
  | str => obtain ⟨n, rfl⟩ := Go.WideShapes.okWide_string hT.2 h; rfl
  | sl t => obtain ⟨_, e, hu, _⟩ := hT; obtain ⟨a, l, c, rfl⟩ := Go.WideShapes.okWide_slice hu h; rfl
  | opq => exact (hne rfl).elim
  | nil => obtain ⟨_, hu⟩ := hT; simp only [Value.okWide, hu] at h; exact agg ⟨_, h.choose_spec.1⟩
  | cons a b => obtain ⟨_, fs, f, r, hu, _⟩ := hT; simp only [Value.okWide, hu] at h; exact agg ⟨_, h.choose_spec.1⟩
  | arr n t => obtain ⟨_, e, hu, _⟩ := hT; simp only [Value.okWide, hu] at h; exact agg ⟨_, h.choose_spec.1⟩

def Arr.all {X : Type} (p : X → Prop) : (n : Nat) → Arr X n → Prop
  | 0, _ => True
  | n + 1, x => p x.1 ∧ Arr.all p n x.2

/-- No slice and no string is longer than memory. -/
def Ty.bd : (t : Ty) → t.D → Prop
  | .str, x => (show List (I .u8) from x).length ≤ LIM
  | .cons a b, x => a.bd x.1 ∧ b.bd x.2
  | .arr n t, x => Arr.all t.bd n x
  | .sl t, x => (show List t.D from x).length ≤ LIM ∧ ∀ (i : Nat) (y : t.D), (show List t.D from x)[i]? = some y → t.bd y
  | .int _, _ => True
  | .bool, _ => True
  | .nil, _ => True
  | .opq, _ => True

theorem EncArr_all {X : Type} {E : X → List Value → Prop} {p : X → Prop} (h : ∀ x cs, E x cs → p x) : ∀ (n : Nat) (x : Arr X n) (cs : List Value), EncArr E n x cs → Arr.all p n x
  | 0, _, _, _ => trivial
  | n + 1, x, cs, he => by
    obtain ⟨c1, c2, _, h1, h2⟩ := he
    exact ⟨h _ _ h1, EncArr_all h n x.2 c2 h2⟩

theorem Enc_bd {W : World} {G : Nat → Prop} : ∀ (t : Ty) (x : t.D) (cs : List Value), Enc W G t x cs → t.bd x := by
  intro t
  induction t with
  | int k => intro x cs _; trivial
  | bool => intro x cs _; trivial
  | nil => intro x cs _; trivial
  | opq => intro x cs _; trivial
  | str => intro x cs h; exact h.2
  | cons a b iha ihb => intro x cs h; obtain ⟨c1, c2, _, h1, h2⟩ := h; exact ⟨iha _ _ h1, ihb _ _ h2⟩
  | arr n t ih => intro x cs h; exact EncArr_all (fun x cs => ih x cs) n x cs h
  | sl t ih =>
    intro x cs h
    obtain ⟨a, c, _, _, hl, hx⟩ := h
    refine ⟨hl, fun i y hy => ?_⟩
    rcases hx with hx | ⟨ad, _, _, _, hr⟩
    · rw [hx] at hy; simp at hy
    · obtain ⟨ds, h1, _⟩ := hr i y hy
      exact ih y ds h1

def bdAll : (ts : List Ty) → ShD (ts.map .pl) → Prop
  | [], _ => True
  | t :: ts, x => t.bd x.1 ∧ bdAll ts x.2

def argsB (P : Program) : List Ty → List TypeId → Bool
  | [], [] => true
  | t :: ts, id :: ids => tokB P t id && (argB P t id && (P.readableRec id && (Nat.blt id P.types.size && argsB P ts ids)))
  | _, _ => false

section
variable {H : Type} {enc : TypeId × Value → H} {P : Program} {W : World}

def cx0 (W : World) : Cx := ⟨W, GW W, fun _ => .bool false, []⟩

theorem args_val {rr : Reach} {base : Nat} : ∀ (ts : List Ty) (ids : List TypeId) (vs : List Value) (ds : List (DataW H)) (ps : List MemPlace), argsB P ts ids = true →
    DataW.TrodAll enc P W 0 (fun _ => true) true ids vs ds ps → (∀ (j : Nat) t v, ids[j]? = some t → vs[j]? = some v → Value.okWide P W rr base t v) →
    (∀ n ∈ DataW.weightsEach P ids ds, n ≤ reachBytes) → ds.length = ts.length ∧ ∃ x : ShD (ts.map .pl), bdAll ts x ∧ All2 (VOk (cx0 W)) (mkSlots (ts.map .pl) x) vs
  | [], [], vs, ds, ps, _, hA, _, _ => by
    obtain ⟨rfl, rfl, rfl⟩ := Go.ChangeShapes.trodAll_nil hA
    exact ⟨rfl, (), trivial, trivial⟩
  | [], _ :: _, _, _, _, h, _, _, _ => by cases h
  | _ :: _, [], _, _, _, h, _, _, _ => by cases h
  | t :: ts, id :: ids, vs, ds, ps, h, hA, hv, hw => by
    simp only [argsB, Bool.and_eq_true] at h
    obtain ⟨h1, h2, _, _, h5⟩ := h
    obtain ⟨v, vs', d, ds', p, q, rfl, rfl, rfl, ⟨fuel, hd⟩, hrest⟩ := Go.ChangeShapes.trodAll_cons hA
    simp only [DataW.weightsEach, List.mem_append] at hw
    have hT := (tok_both P t).1 id h1
    obtain ⟨x, hx⟩ := (enc_of_trod t).1 fuel id _ d p hT h2 hd fun n hn => hw n (.inl hn)
    obtain ⟨hl, y, hbd, hy⟩ := args_val ts ids vs' ds' q h5 hrest (fun j t v ht hv' => hv (j + 1) t v (by simpa using ht) (by simpa using hv')) fun n hn => hw n (.inr hn)
    refine ⟨by simp [hl], (x, y), ⟨Enc_bd t x _ hx, hbd⟩, ?_, hy⟩
    refine ⟨_, hx, ?_⟩
    exact val_of_ok hT (by rintro rfl; simp [argB] at h2) (hv 0 id v rfl rfl)

theorem trodAll_below (hl : laidOutB P = true) {W' : World} (hb : Go.RowKit.Below W.heap.size W W') : ∀ (ts : List Ty) (ids : List TypeId) (vs : List Value) (ds : List (DataW H)) (ps : List MemPlace), argsB P ts ids = true →
    DataW.TrodAll enc P W 0 (fun _ => true) true ids vs ds ps → (∀ x ∈ ps, x.block < W.heap.size) → DataW.TrodAll enc P W' 0 (fun b => decide (b < W.heap.size)) true ids vs ds ps
  | [], [], vs, ds, ps, _, hA, _ => by
    obtain ⟨rfl, rfl, rfl⟩ := Go.ChangeShapes.trodAll_nil hA
    exact Go.ChangeShapes.trodAll_mk0
  | [], _ :: _, _, _, _, h, _, _ => by cases h
  | _ :: _, [], _, _, _, h, _, _ => by cases h
  | t :: ts, id :: ids, vs, ds, ps, h, hA, hlt => by
    simp only [argsB, Bool.and_eq_true] at h
    obtain ⟨_, _, h3, h4, h5⟩ := h
    obtain ⟨v, vs', d, ds', p, q, rfl, rfl, rfl, hd, hrest⟩ := Go.ChangeShapes.trodAll_cons hA
    refine ⟨p, q, Go.RowKit.Below.trod hl h3 (Nat.lt_of_succ_le (Nat.le_of_ble_eq_true h4)) hd hb fun x hx => hlt x (by simp [hx]), ?_, rfl⟩
    exact trodAll_below hl hb ts ids vs' ds' q h5 hrest fun x hx => hlt x (by simp [hx])

theorem start0 : Start (cx0 W) := by
  have hu : ∀ b, blkAt (cx0 W).H b = .unborn := fun b => by simp [cx0, blkAt]
  refine ⟨fun b => ?_, fun b b' r h => ?_, fun r hr => ⟨hr, fun b h => ?_⟩⟩
  · unfold BlkOk; rw [hu]; trivial
  · rw [hu] at h; cases h
  · rw [hu] at h; cases h

theorem row_of_con {C : Checked} {f : FuncId} {fn : Func} {s : ChangeSpec} {ts : List Ty} {bt : TypeId} {F : (⟨ts.map .pl, []⟩ : Tm).D → Option (⟨[.pl .bool], []⟩ : Tm).D}
    (hl : laidOutB C.prog = true) (hfn : C.prog.funcs[f]? = some fn) (hbody : fn.body.isSome = true) (hname : (fn.name == "runtime.NumGoroutine") = false)
    (hargs : argsB C.prog ts fn.params.toList = true) (hres : fn.resultTypes = #[bt]) (hbt : C.prog.underlying bt = some .bool) (hvars : s.vars = [])
    (hs : ∀ ds : List (DataW H), ds.length = ts.length → s.fn H ds = { results := [.lit (.bool true)], args := ds })
    (hcon : ConOk C.prog f ⟨⟨ts.map .pl, []⟩, ⟨[.pl .bool], []⟩, F⟩) (hF : ∀ x, bdAll ts x → F (x, ()) = some ((true, ()), ()))
    (base : Nat) (args : Array Value) (ds gs : List (DataW H)) (before : List MemPlace)
    (hval : ∀ (j : Nat) t v, fn.params[j]? = some t → args[j]? = some v → Value.okWide C.prog W .any base t v)
    (hW : DataW.Whole enc C.prog fn.params.toList s.vars false W args.toList ds gs before)
    (hsz : (DataW.weightsEach C.prog (fn.params.toList ++ s.plain.varTypes C.prog) (ds ++ gs)).all (· ≤ reachBytes) = true) :
    Calls C.prog f args W fun e W' => ∃ v, e = .returned v ∧ s.post enc C.prog fn false true false false W args v W' := by
  have hW' := hW
  obtain ⟨p, q, hA, hV, rfl, hfz, hnd⟩ := hW
  rw [hvars] at hV
  obtain ⟨rfl, rfl⟩ := Go.ChangeShapes.trodVars_none hV
  have hvt : s.plain.varTypes C.prog = [] := by simp [DataSpec.varTypes, ChangeSpec.plain, hvars]
  rw [hvt, List.append_nil, List.append_nil, List.all_eq_true] at hsz
  obtain ⟨hlen, x, hbd, hx⟩ := args_val (P := C.prog) ts fn.params.toList args.toList ds p hargs hA
    (fun j t v h1 h2 => hval j t v (by rw [← Array.getElem?_toList]; exact h1) (by rw [← Array.getElem?_toList]; exact h2)) fun n hn => of_decide_eq_true (hsz n hn)
  have key := hcon (x, ()) ((true, ()), ()) (hF x hbd) (cx0 W) args.toList start0 rfl hx
  rw [Array.toArray_toList] at key
  obtain ⟨b, hb⟩ := Option.isSome_iff_exists.1 hbody
  have hent := run_callFunc (args := args) (w := W) hfn hb hname
  rcases key with ⟨v, w', h1, _⟩ | ⟨_, h⟩
  · change (callFunc f args).run C.prog W = _ at h1
    rw [hent] at h1
    cases h1
  · refine h.mono fun e w' hr => ?_
    obtain ⟨v, he, c', hw, hH, hv, hM⟩ := hr
    subst he hw
    refine ⟨v, rfl, ?_⟩
    have hown : ∀ r, ¬ ownOf (cx0 W) r := by
      rintro r ⟨b, hb, _⟩
      simp [cx0, blkAt, live] at hb
    have bel : Go.RowKit.Below W.heap.size W c'.w := ⟨hM.os, hM.tape, hM.output, hM.size, fun k hk => hM.frame k hk (hown k)⟩
    obtain ⟨cs, hcs, hv⟩ := hv
    have hcs : cs = [.bool true] := hcs
    subst hcs
    have hv : v = .bool true := hv
    subst hv
    have hfnH := hs ds hlen
    refine ⟨ds, [], _, [], p, [], hW', ?_, ?_, ?_, bel.frame _, fun h => by cases h⟩
    · rw [List.append_nil, hfnH, hres]
      exact Go.ChangeShapes.trodAll_mk1 (Go.RowKit.shut_bool hbt _)
    · rw [List.append_nil, hfnH]
      refine trodAll_below hl bel ts _ _ _ _ hargs hA fun x hx => ?_
      exact DataW.TrodAll.lt hA x hx
    · rw [List.append_nil, hfnH, hvars]
      rfl
end
end Sym
