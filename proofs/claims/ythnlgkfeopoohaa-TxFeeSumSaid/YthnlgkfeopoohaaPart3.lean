/- The given functions as plain functions, as the printer told them. -/
import Derived.Test.YthnlgkfeopoohaaProg
import Derived.Carry
import Derived.SizedLaws
import Derived.ChangeOld
import Derived.OpenShut
import Derived.Test.YthnlgkfeopoohaaPart2
namespace Sym
open Go

/-- pontage/pontageref1.norm -/
noncomputable def pontageref1_norm (x : (⟨[.pl (.sl (.int .i64))], []⟩ : Tm).D) : Option (⟨[.pl (.sl (.int .i64))], []⟩ : Tm).D :=
 let a : List (I .i64) := x.1.1
 iter (none) (fun x0 =>
   brn (@I.ltb .i64 (I.of .i64 0) x0.1.2.1)
    (brn (@inB .i64 (@I.sub .i64 x0.1.2.1 (I.of .i64 1)) (@lenL (I .i64) x0.1.1))
     (brn (@I.eqb .i64 (@rdL (I .i64) (I.of .i64 0) x0.1.1 (@I.nat .i64 (@I.sub .i64 x0.1.2.1 (I.of .i64 1)))) (I.of .i64 0))
      (.again ((x0.1.1, ((@I.sub .i64 x0.1.2.1 (I.of .i64 1)), ())), ()))
      (.done (brn (@inB' .i64 x0.1.2.1 (@lenL (I .i64) x0.1.1))
       (some (((@subL (I .i64) x0.1.1 0 (@I.nat .i64 x0.1.2.1)), ()), ()))
       (none))))
     (.done (none)))
    (.done (brn (@inB' .i64 x0.1.2.1 (@lenL (I .i64) x0.1.1))
     (some (((@subL (I .i64) x0.1.1 0 (@I.nat .i64 x0.1.2.1)), ()), ()))
     (none))))
 K0 ((a, ((I.ofNat .i64 (@lenL (I .i64) a)), ())), ())

/-- pontage/pontageref1.Cmp -/
noncomputable def pontageref1_Cmp (x : (⟨[.pl (.sl (.int .i64)), .pl (.sl (.int .i64))], []⟩ : Tm).D) : Option (⟨[.pl (.int .i64)], []⟩ : Tm).D :=
 let a : List (I .i64) := x.1.1
 let b : List (I .i64) := x.1.2.1
 brn (@I.neb .i64 (I.ofNat .i64 (@lenL (I .i64) a)) (I.ofNat .i64 (@lenL (I .i64) b)))
  (brn (@I.ltb .i64 (I.ofNat .i64 (@lenL (I .i64) a)) (I.ofNat .i64 (@lenL (I .i64) b)))
   (some (((I.of .i64 (-1)), ()), ()))
   (some (((I.of .i64 1), ()), ())))
  (iter (none) (fun x0 =>
    brn (@I.leb .i64 (I.of .i64 0) x0.1.2.2.1)
     (brn (@inB .i64 x0.1.2.2.1 (@lenL (I .i64) x0.1.1))
      (brn (@inB .i64 x0.1.2.2.1 (@lenL (I .i64) x0.1.2.1))
       (brn (@I.ltb .i64 (@rdL (I .i64) (I.of .i64 0) x0.1.1 (@I.nat .i64 x0.1.2.2.1)) (@rdL (I .i64) (I.of .i64 0) x0.1.2.1 (@I.nat .i64 x0.1.2.2.1)))
        (.done (some (((I.of .i64 (-1)), ()), ())))
        (brn (@inB .i64 x0.1.2.2.1 (@lenL (I .i64) x0.1.1))
         (brn (@inB .i64 x0.1.2.2.1 (@lenL (I .i64) x0.1.2.1))
          (brn (@I.ltb .i64 (@rdL (I .i64) (I.of .i64 0) x0.1.2.1 (@I.nat .i64 x0.1.2.2.1)) (@rdL (I .i64) (I.of .i64 0) x0.1.1 (@I.nat .i64 x0.1.2.2.1)))
           (.done (some (((I.of .i64 1), ()), ())))
           (.again ((x0.1.1, (x0.1.2.1, ((@I.sub .i64 x0.1.2.2.1 (I.of .i64 1)), ()))), ())))
          (.done (none)))
         (.done (none))))
       (.done (none)))
      (.done (none)))
     (.done (some (((I.of .i64 0), ()), ()))))
  K0 ((a, (b, ((@I.sub .i64 (I.ofNat .i64 (@lenL (I .i64) a)) (I.of .i64 1)), ()))), ()))

/-- pontage/pontageref1.Sub -/
noncomputable def pontageref1_Sub (x : (⟨[.pl (.sl (.int .i64)), .pl (.sl (.int .i64))], []⟩ : Tm).D) : Option (⟨[.pl (.sl (.int .i64))], []⟩ : Tm).D :=
 let a : List (I .i64) := x.1.1
 let b : List (I .i64) := x.1.2.1
 brn (@inB' .i64 (I.ofNat .i64 (@lenL (I .i64) a)) (@I.nat .i64 (I.ofNat .i64 (@lenL (I .i64) a))))
  (brn (@inB' .i64 (I.ofNat .i64 (@lenL (I .i64) a)) 1073741824)
   (iter (none) (fun x0 =>
     brn (@I.ltb .i64 x0.1.2.2.2.1 (I.ofNat .i64 (@lenL (I .i64) x0.1.1)))
      (brn (@inB .i64 x0.1.2.2.2.1 (@lenL (I .i64) x0.1.1))
       (jn (fun (x1 : (((List (I .i64)) × ((List (I .i64)) × ((I .i64) × ((I .i64) × Unit)))) × ((List (I .i64)) × Unit))) =>
         brn (@I.ltb .i64 x1.1.2.2.2.1 (I.of .i64 0))
          (brn (@inB .i64 x1.1.2.2.1 (@lenL (I .i64) x1.2.1))
           (.again ((x1.1.1, (x1.1.2.1, ((I.of .i64 1), ((@I.add .i64 x1.1.2.2.1 (I.of .i64 1)), ())))), ((@setL (I .i64) x1.2.1 (@I.nat .i64 x1.1.2.2.1) (@I.add .i64 x1.1.2.2.2.1 (I.of .i64 65536))), ())))
           (.done (none)))
          (brn (@inB .i64 x1.1.2.2.1 (@lenL (I .i64) x1.2.1))
           (.again ((x1.1.1, (x1.1.2.1, ((I.of .i64 0), ((@I.add .i64 x1.1.2.2.1 (I.of .i64 1)), ())))), ((@setL (I .i64) x1.2.1 (@I.nat .i64 x1.1.2.2.1) x1.1.2.2.2.1), ())))
           (.done (none)))) fun j1 =>
       brn (@I.ltb .i64 x0.1.2.2.2.1 (I.ofNat .i64 (@lenL (I .i64) x0.1.2.1)))
        (brn (@inB .i64 x0.1.2.2.2.1 (@lenL (I .i64) x0.1.2.1))
         (j1 ((x0.1.1, (x0.1.2.1, (x0.1.2.2.2.1, ((@I.sub .i64 (@I.sub .i64 (@rdL (I .i64) (I.of .i64 0) x0.1.1 (@I.nat .i64 x0.1.2.2.2.1)) x0.1.2.2.1) (@rdL (I .i64) (I.of .i64 0) x0.1.2.1 (@I.nat .i64 x0.1.2.2.2.1))), ())))), (x0.2.1, ())))
         (.done (none)))
        (j1 ((x0.1.1, (x0.1.2.1, (x0.1.2.2.2.1, ((@I.sub .i64 (@rdL (I .i64) (I.of .i64 0) x0.1.1 (@I.nat .i64 x0.1.2.2.2.1)) x0.1.2.2.1), ())))), (x0.2.1, ()))))
       (.done (none)))
      (.done (optF (none) (pontageref1_norm ((x0.2.1, ()), ())) fun y1 =>
      some ((y1.1.1, ()), ()))))
   K0 ((a, (b, ((I.of .i64 0), ((I.of .i64 0), ())))), ((@repD (I .i64) (@I.nat .i64 (I.ofNat .i64 (@lenL (I .i64) a))) (I.of .i64 0)), ())))
   (none))
  (none)

/-- pontage/pontageref1.short -/
noncomputable def pontageref1_short (x : (⟨[.pl (.sl (.int .i64)), .pl (.int .i64)], []⟩ : Tm).D) : Option (⟨[.pl (.sl (.int .i64)), .pl (.sl (.int .i64))], []⟩ : Tm).D :=
 let a : List (I .i64) := x.1.1
 let b : I .i64 := x.1.2.1
 brn (@inB' .i64 (I.ofNat .i64 (@lenL (I .i64) a)) (@I.nat .i64 (I.ofNat .i64 (@lenL (I .i64) a))))
  (brn (@inB' .i64 (I.ofNat .i64 (@lenL (I .i64) a)) 1073741824)
   (iter (none) (fun x0 =>
     brn (@I.leb .i64 (I.of .i64 0) x0.1.2.2.2.1)
      (brn (@inB .i64 x0.1.2.2.2.1 (@lenL (I .i64) x0.1.1))
       (brn (@I.nz .i64 x0.1.2.1)
        (brn (@I.nz .i64 x0.1.2.1)
         (brn (@inB .i64 x0.1.2.2.2.1 (@lenL (I .i64) x0.2.1))
          (.again ((x0.1.1, (x0.1.2.1, ((@I.rem .i64 (@I.add .i64 (@I.mul .i64 (I.of .i64 65536) x0.1.2.2.1) (@rdL (I .i64) (I.of .i64 0) x0.1.1 (@I.nat .i64 x0.1.2.2.2.1))) x0.1.2.1), ((@I.sub .i64 x0.1.2.2.2.1 (I.of .i64 1)), ())))), ((@setL (I .i64) x0.2.1 (@I.nat .i64 x0.1.2.2.2.1) (@I.quo .i64 (@I.add .i64 (@I.mul .i64 (I.of .i64 65536) x0.1.2.2.1) (@rdL (I .i64) (I.of .i64 0) x0.1.1 (@I.nat .i64 x0.1.2.2.2.1))) x0.1.2.1)), ())))
          (.done (none)))
         (.done (none)))
        (.done (none)))
       (.done (none)))
      (.done (optF (none) (pontageref1_norm ((x0.2.1, ()), ())) fun y1 =>
      optF (none) (pontageref1_norm (((x0.1.2.2.1 :: []), ()), ())) fun y2 =>
      some ((y1.1.1, (y2.1.1, ())), ()))))
   K0 ((a, (b, ((I.of .i64 0), ((@I.sub .i64 (I.ofNat .i64 (@lenL (I .i64) a)) (I.of .i64 1)), ())))), ((@repD (I .i64) (@I.nat .i64 (I.ofNat .i64 (@lenL (I .i64) a))) (I.of .i64 0)), ())))
   (none))
  (none)

/-- pontage/pontageref1.Div -/
noncomputable def pontageref1_Div (x : (⟨[.pl (.sl (.int .i64)), .pl (.sl (.int .i64))], []⟩ : Tm).D) : Option (⟨[.pl (.sl (.int .i64)), .pl (.sl (.int .i64))], []⟩ : Tm).D :=
 let a : List (I .i64) := x.1.1
 let b : List (I .i64) := x.1.2.1
 brn (@I.eqb .i64 (I.ofNat .i64 (@lenL (I .i64) b)) (I.of .i64 1))
  (brn (@inB .i64 (I.of .i64 0) (@lenL (I .i64) b))
   (optF (none) (pontageref1_short ((a, ((@rdL (I .i64) (I.of .i64 0) b 0), ())), ())) fun y0 =>
   some ((y0.1.1, (y0.1.2.1, ())), ()))
   (none))
  (brn (@inB' .i64 (I.ofNat .i64 (@lenL (I .i64) a)) (@I.nat .i64 (I.ofNat .i64 (@lenL (I .i64) a))))
   (brn (@inB' .i64 (I.ofNat .i64 (@lenL (I .i64) a)) 1073741824)
    (brn (@inB' .i64 (@I.add .i64 (I.ofNat .i64 (@lenL (I .i64) b)) (I.of .i64 1)) (@I.nat .i64 (@I.add .i64 (I.ofNat .i64 (@lenL (I .i64) b)) (I.of .i64 1))))
     (brn (@inB' .i64 (@I.add .i64 (I.ofNat .i64 (@lenL (I .i64) b)) (I.of .i64 1)) 1073741824)
      (iter (none) (fun x0 =>
        brn (@I.leb .i64 (I.of .i64 0) x0.1.2.2.1)
         (iter (.done (none)) (fun x1 =>
           brn (@I.leb .i64 (I.of .i64 0) x1.1.2.2.2.1)
            (brn (@inB .i64 x1.1.2.2.1 (@lenL (I .i64) x1.1.1))
             (brn (@I.nn .u64 (I.conv (k := .i64) .u64 x1.1.2.2.2.1))
              (iter (.done (.done (none))) (fun x2 =>
                brn (@I.ltb .i64 x2.1.2.2.2.2.2.1 (I.ofNat .i64 (@lenL (I .i64) x2.2.2.1)))
                 (brn (@inB .i64 x2.1.2.2.2.2.2.1 (@lenL (I .i64) x2.2.2.1))
                  (brn (@inB .i64 x2.1.2.2.2.2.2.1 (@lenL (I .i64) x2.2.2.1))
                   (.again ((x2.1.1, (x2.1.2.1, (x2.1.2.2.1, (x2.1.2.2.2.1, ((@I.shr .i64 .u64 (@I.add .i64 x2.1.2.2.2.2.1 (@I.mul .i64 (I.of .i64 2) (@rdL (I .i64) (I.of .i64 0) x2.2.2.1 (@I.nat .i64 x2.1.2.2.2.2.2.1)))) (I.of .u64 16)), ((@I.add .i64 x2.1.2.2.2.2.2.1 (I.of .i64 1)), ())))))), (x2.2.1, ((@setL (I .i64) x2.2.2.1 (@I.nat .i64 x2.1.2.2.2.2.2.1) (@I.and .i64 (@I.add .i64 x2.1.2.2.2.2.1 (@I.mul .i64 (I.of .i64 2) (@rdL (I .i64) (I.of .i64 0) x2.2.2.1 (@I.nat .i64 x2.1.2.2.2.2.2.1)))) (I.of .i64 65535))), ()))))
                   (.done (.done (.done (none)))))
                  (.done (.done (.done (none)))))
                 (.done (optF (.done (.done (none))) (pontageref1_norm ((x2.2.2.1, ()), ())) fun y3 =>
                 optF (.done (.done (none))) (pontageref1_Cmp ((y3.1.1, (x2.1.2.1, ())), ())) fun y4 =>
                 brn (@I.leb .i64 (I.of .i64 0) y4.1.1)
                  (.done (.done (none)))
                  (.done (.done (none))))))
              K0 ((x1.1.1, (x1.1.2.1, (x1.1.2.2.1, (x1.1.2.2.2.1, ((@I.and .i64 (@I.shr .i64 .u64 (@rdL (I .i64) (I.of .i64 0) x1.1.1 (@I.nat .i64 x1.1.2.2.1)) (I.conv (k := .i64) .u64 x1.1.2.2.2.1)) (I.of .i64 1)), ((I.of .i64 0), ())))))), (x1.2.1, (x1.2.2.1, ()))))
              (.done (.done (none))))
             (.done (.done (none))))
            (.done (.again ((x1.1.1, (x1.1.2.1, ((@I.sub .i64 x1.1.2.2.1 (I.of .i64 1)), ()))), (x1.2.1, (x1.2.2.1, ()))))))
         K0 ((x0.1.1, (x0.1.2.1, (x0.1.2.2.1, ((I.of .i64 15), ())))), (x0.2.1, (x0.2.2.1, ()))))
         (.done (optF (none) (pontageref1_norm ((x0.2.1, ()), ())) fun y1 =>
         optF (none) (pontageref1_norm ((x0.2.2.1, ()), ())) fun y2 =>
         some ((y1.1.1, (y2.1.1, ())), ()))))
      K0 ((a, (b, ((@I.sub .i64 (I.ofNat .i64 (@lenL (I .i64) a)) (I.of .i64 1)), ()))), ((@repD (I .i64) (@I.nat .i64 (I.ofNat .i64 (@lenL (I .i64) a))) (I.of .i64 0)), ((@repD (I .i64) (@I.nat .i64 (@I.add .i64 (I.ofNat .i64 (@lenL (I .i64) b)) (I.of .i64 1))) (I.of .i64 0)), ()))))
      (none))
     (none))
    (none))
   (none))

/-- pontage/pontageref1.Add -/
noncomputable def pontageref1_Add (x : (⟨[.pl (.sl (.int .i64)), .pl (.sl (.int .i64))], []⟩ : Tm).D) : Option (⟨[.pl (.sl (.int .i64))], []⟩ : Tm).D :=
 let a : List (I .i64) := x.1.1
 let b : List (I .i64) := x.1.2.1
 iter (none) (fun x0 =>
   jn (fun (x1 : (((List (I .i64)) × ((List (I .i64)) × ((I .i64) × ((I .i64) × Unit)))) × ((List (I .i64)) × Unit))) =>
     jn (fun (x2 : (((List (I .i64)) × ((List (I .i64)) × ((I .i64) × ((I .i64) × Unit)))) × ((List (I .i64)) × Unit))) =>
       brn (@I.ltb .i64 x2.1.2.2.2.1 (I.ofNat .i64 (@lenL (I .i64) x2.1.2.1)))
        (brn (@inB .i64 x2.1.2.2.2.1 (@lenL (I .i64) x2.1.2.1))
         (brn (fitsLen (@lenL (I .i64) (@appL (I .i64) x2.2.1 ((@I.and .i64 (@I.add .i64 x2.1.2.2.1 (@rdL (I .i64) (I.of .i64 0) x2.1.2.1 (@I.nat .i64 x2.1.2.2.2.1))) (I.of .i64 65535)) :: []))))
          (.again ((x2.1.1, (x2.1.2.1, ((@I.shr .i64 .u64 (@I.add .i64 x2.1.2.2.1 (@rdL (I .i64) (I.of .i64 0) x2.1.2.1 (@I.nat .i64 x2.1.2.2.2.1))) (I.of .u64 16)), ((@I.add .i64 x2.1.2.2.2.1 (I.of .i64 1)), ())))), ((@appL (I .i64) x2.2.1 ((@I.and .i64 (@I.add .i64 x2.1.2.2.1 (@rdL (I .i64) (I.of .i64 0) x2.1.2.1 (@I.nat .i64 x2.1.2.2.2.1))) (I.of .i64 65535)) :: [])), ())))
          (.done (none)))
         (.done (none)))
        (brn (fitsLen (@lenL (I .i64) (@appL (I .i64) x2.2.1 ((@I.and .i64 x2.1.2.2.1 (I.of .i64 65535)) :: []))))
         (.again ((x2.1.1, (x2.1.2.1, ((@I.shr .i64 .u64 x2.1.2.2.1 (I.of .u64 16)), ((@I.add .i64 x2.1.2.2.2.1 (I.of .i64 1)), ())))), ((@appL (I .i64) x2.2.1 ((@I.and .i64 x2.1.2.2.1 (I.of .i64 65535)) :: [])), ())))
         (.done (none)))) fun j2 =>
     brn (@I.ltb .i64 x1.1.2.2.2.1 (I.ofNat .i64 (@lenL (I .i64) x1.1.1)))
      (brn (@inB .i64 x1.1.2.2.2.1 (@lenL (I .i64) x1.1.1))
       (j2 ((x1.1.1, (x1.1.2.1, ((@I.add .i64 x1.1.2.2.1 (@rdL (I .i64) (I.of .i64 0) x1.1.1 (@I.nat .i64 x1.1.2.2.2.1))), (x1.1.2.2.2.1, ())))), (x1.2.1, ())))
       (.done (none)))
      (j2 ((x1.1.1, (x1.1.2.1, (x1.1.2.2.1, (x1.1.2.2.2.1, ())))), (x1.2.1, ())))) fun j1 =>
   brn (@I.ltb .i64 x0.1.2.2.2.1 (I.ofNat .i64 (@lenL (I .i64) x0.1.1)))
    (j1 ((x0.1.1, (x0.1.2.1, (x0.1.2.2.1, (x0.1.2.2.2.1, ())))), (x0.2.1, ())))
    (brn (@I.ltb .i64 x0.1.2.2.2.1 (I.ofNat .i64 (@lenL (I .i64) x0.1.2.1)))
     (j1 ((x0.1.1, (x0.1.2.1, (x0.1.2.2.1, (x0.1.2.2.2.1, ())))), (x0.2.1, ())))
     (brn (@I.ltb .i64 (I.of .i64 0) x0.1.2.2.1)
      (j1 ((x0.1.1, (x0.1.2.1, (x0.1.2.2.1, (x0.1.2.2.2.1, ())))), (x0.2.1, ())))
      (.done (some ((x0.2.1, ()), ()))))))
 K0 ((a, (b, ((I.of .i64 0), ((I.of .i64 0), ())))), ([], ()))

/-- pontage/pontageref1.FromUint256 -/
noncomputable def pontageref1_FromUint256 (x : (⟨[.pl (.arr 4 (.int .u64))], []⟩ : Tm).D) : Option (⟨[.pl (.sl (.int .i64))], []⟩ : Tm).D :=
 let a : (I .u64) × (I .u64) × (I .u64) × (I .u64) × Unit := x.1.1
 iter (none) (fun x0 =>
   brn (@I.ltb .i64 x0.1.1 (I.of .i64 16))
    (brn (@inB .i64 (@I.quo .i64 x0.1.1 (I.of .i64 4)) 4)
     (brn (@I.nn .u64 (I.conv (k := .i64) .u64 (@I.mul .i64 (I.of .i64 16) (@I.rem .i64 x0.1.1 (I.of .i64 4)))))
      (brn (@inB .i64 x0.1.1 (@lenL (I .i64) x0.2.2.1))
       (.again (((@I.add .i64 x0.1.1 (I.of .i64 1)), ()), (x0.2.1, ((@setL (I .i64) x0.2.2.1 (@I.nat .i64 x0.1.1) (I.conv (k := .u64) .i64 (@I.and .u64 (@I.shr .u64 .u64 (@Arr.sel (I .u64) (I.of .u64 0) 4 x0.2.1 (@I.nat .i64 (@I.quo .i64 x0.1.1 (I.of .i64 4)))) (I.conv (k := .i64) .u64 (@I.mul .i64 (I.of .i64 16) (@I.rem .i64 x0.1.1 (I.of .i64 4))))) (I.of .u64 65535)))), ()))))
       (.done (none)))
      (.done (none)))
     (.done (none)))
    (.done (optF (none) (pontageref1_norm ((x0.2.2.1, ()), ())) fun y1 =>
    some ((y1.1.1, ()), ()))))
 K0 (((I.of .i64 0), ()), (a, ((@repD (I .i64) 16 (I.of .i64 0)), ())))

/-- pontage/pontageref1.FromUint64 -/
noncomputable def pontageref1_FromUint64 (x : (⟨[.pl (.int .u64)], []⟩ : Tm).D) : Option (⟨[.pl (.sl (.int .i64))], []⟩ : Tm).D :=
 let a : I .u64 := x.1.1
 optF (none) (pontageref1_FromUint256 (((a, ((I.of .u64 0), ((I.of .u64 0), ((I.of .u64 0), ())))), ()), ())) fun y0 =>
 some ((y0.1.1, ()), ())

/-- pontage/pontageref1.Fits -/
noncomputable def pontageref1_Fits (x : (⟨[.pl (.sl (.int .i64))], []⟩ : Tm).D) : Option (⟨[.pl .bool], []⟩ : Tm).D :=
 let a : List (I .i64) := x.1.1
 some (((@I.leb .i64 (I.ofNat .i64 (@lenL (I .i64) a)) (I.of .i64 16)), ()), ())

/-- pontage/pontageref1.ToUint256 -/
noncomputable def pontageref1_ToUint256 (x : (⟨[.pl (.sl (.int .i64))], []⟩ : Tm).D) : Option (⟨[.pl (.arr 4 (.int .u64))], []⟩ : Tm).D :=
 let a : List (I .i64) := x.1.1
 iter (none) (fun x0 =>
   jn (fun (x1 : (((List (I .i64)) × ((I .i64) × ((I .i64) × (Bool × Unit)))) × (((I .u64) × ((I .u64) × ((I .u64) × ((I .u64) × Unit)))) × (((I .u64) × ((I .u64) × ((I .u64) × ((I .u64) × Unit)))) × Unit)))) =>
     brn (@inB .i64 (@I.quo .i64 x1.1.2.1 (I.of .i64 4)) 4)
      (brn (@inB .i64 x1.1.2.1 (@lenL (I .i64) x1.1.1))
       (brn (@I.nn .u64 (I.conv (k := .i64) .u64 (@I.mul .i64 (I.of .i64 16) (@I.rem .i64 x1.1.2.1 (I.of .i64 4)))))
        (brn (@inB .i64 (@I.quo .i64 x1.1.2.1 (I.of .i64 4)) 4)
         (.again ((x1.1.1, ((@I.add .i64 x1.1.2.1 (I.of .i64 1)), ())), (x1.2.1, ((@Arr.upd (I .u64) 4 x1.2.2.1 (@I.nat .i64 (@I.quo .i64 x1.1.2.1 (I.of .i64 4))) (@I.add .u64 (@Arr.sel (I .u64) (I.of .u64 0) 4 x1.2.2.1 (@I.nat .i64 (@I.quo .i64 x1.1.2.1 (I.of .i64 4)))) (@I.shl .u64 .u64 (I.conv (k := .i64) .u64 (@rdL (I .i64) (I.of .i64 0) x1.1.1 (@I.nat .i64 x1.1.2.1))) (I.conv (k := .i64) .u64 (@I.mul .i64 (I.of .i64 16) (@I.rem .i64 x1.1.2.1 (I.of .i64 4))))))), ()))))
         (.done (none)))
        (.done (none)))
       (.done (none)))
      (.done (none))) fun j1 =>
   brn (@I.ltb .i64 x0.1.2.1 (I.ofNat .i64 (@lenL (I .i64) x0.1.1)))
    (brn (@I.ltb .i64 x0.1.2.1 (I.of .i64 16))
     (j1 ((x0.1.1, (x0.1.2.1, (x0.1.2.1, ((@I.ltb .i64 x0.1.2.1 (I.of .i64 16)), ())))), (x0.2.1, (x0.2.2.1, ()))))
     (.done (some ((x0.2.2.1, ()), ()))))
    (.done (some ((x0.2.2.1, ()), ()))))
 K0 ((a, ((I.of .i64 0), ())), (((I.of .u64 0), ((I.of .u64 0), ((I.of .u64 0), ((I.of .u64 0), ())))), (((I.of .u64 0), ((I.of .u64 0), ((I.of .u64 0), ((I.of .u64 0), ())))), ())))

/-- pontage/pontageref1.Mul -/
noncomputable def pontageref1_Mul (x : (⟨[.pl (.sl (.int .i64)), .pl (.sl (.int .i64))], []⟩ : Tm).D) : Option (⟨[.pl (.sl (.int .i64))], []⟩ : Tm).D :=
 let a : List (I .i64) := x.1.1
 let b : List (I .i64) := x.1.2.1
 brn (@inB' .i64 (@I.add .i64 (I.ofNat .i64 (@lenL (I .i64) a)) (I.ofNat .i64 (@lenL (I .i64) b))) (@I.nat .i64 (@I.add .i64 (I.ofNat .i64 (@lenL (I .i64) a)) (I.ofNat .i64 (@lenL (I .i64) b)))))
  (brn (@inB' .i64 (@I.add .i64 (I.ofNat .i64 (@lenL (I .i64) a)) (I.ofNat .i64 (@lenL (I .i64) b))) 1073741824)
   (iter (none) (fun x0 =>
     brn (@I.ltb .i64 x0.1.2.2.1 (I.ofNat .i64 (@lenL (I .i64) x0.1.1)))
      (iter (.done (none)) (fun x1 =>
        brn (@I.ltb .i64 x1.1.2.2.2.2.1 (I.ofNat .i64 (@lenL (I .i64) x1.1.2.1)))
         (brn (@inB .i64 (@I.add .i64 x1.1.2.2.1 x1.1.2.2.2.2.1) (@lenL (I .i64) x1.2.1))
          (brn (@inB .i64 x1.1.2.2.1 (@lenL (I .i64) x1.1.1))
           (brn (@inB .i64 x1.1.2.2.2.2.1 (@lenL (I .i64) x1.1.2.1))
            (brn (@inB .i64 (@I.add .i64 x1.1.2.2.1 x1.1.2.2.2.2.1) (@lenL (I .i64) x1.2.1))
             (.again ((x1.1.1, (x1.1.2.1, (x1.1.2.2.1, ((@I.shr .i64 .u64 (@I.add .i64 (@I.add .i64 x1.1.2.2.2.1 (@rdL (I .i64) (I.of .i64 0) x1.2.1 (@I.nat .i64 (@I.add .i64 x1.1.2.2.1 x1.1.2.2.2.2.1)))) (@I.mul .i64 (@rdL (I .i64) (I.of .i64 0) x1.1.1 (@I.nat .i64 x1.1.2.2.1)) (@rdL (I .i64) (I.of .i64 0) x1.1.2.1 (@I.nat .i64 x1.1.2.2.2.2.1)))) (I.of .u64 16)), ((@I.add .i64 x1.1.2.2.2.2.1 (I.of .i64 1)), ()))))), ((@setL (I .i64) x1.2.1 (@I.nat .i64 (@I.add .i64 x1.1.2.2.1 x1.1.2.2.2.2.1)) (@I.and .i64 (@I.add .i64 (@I.add .i64 x1.1.2.2.2.1 (@rdL (I .i64) (I.of .i64 0) x1.2.1 (@I.nat .i64 (@I.add .i64 x1.1.2.2.1 x1.1.2.2.2.2.1)))) (@I.mul .i64 (@rdL (I .i64) (I.of .i64 0) x1.1.1 (@I.nat .i64 x1.1.2.2.1)) (@rdL (I .i64) (I.of .i64 0) x1.1.2.1 (@I.nat .i64 x1.1.2.2.2.2.1)))) (I.of .i64 65535))), ())))
             (.done (.done (none))))
            (.done (.done (none))))
           (.done (.done (none))))
          (.done (.done (none))))
         (.done (brn (@inB .i64 (@I.add .i64 x1.1.2.2.1 (I.ofNat .i64 (@lenL (I .i64) x1.1.2.1))) (@lenL (I .i64) x1.2.1))
          (.again ((x1.1.1, (x1.1.2.1, ((@I.add .i64 x1.1.2.2.1 (I.of .i64 1)), ()))), ((@setL (I .i64) x1.2.1 (@I.nat .i64 (@I.add .i64 x1.1.2.2.1 (I.ofNat .i64 (@lenL (I .i64) x1.1.2.1)))) x1.1.2.2.2.1), ())))
          (.done (none)))))
      K0 ((x0.1.1, (x0.1.2.1, (x0.1.2.2.1, ((I.of .i64 0), ((I.of .i64 0), ()))))), (x0.2.1, ())))
      (.done (optF (none) (pontageref1_norm ((x0.2.1, ()), ())) fun y1 =>
      some ((y1.1.1, ()), ()))))
   K0 ((a, (b, ((I.of .i64 0), ()))), ((@repD (I .i64) (@I.nat .i64 (@I.add .i64 (I.ofNat .i64 (@lenL (I .i64) a)) (I.ofNat .i64 (@lenL (I .i64) b)))) (I.of .i64 0)), ())))
   (none))
  (none)

/-- pontage/pontageref1.Checked -/
noncomputable def pontageref1_Checked (x : (⟨[.pl (.sl (.int .i64))], []⟩ : Tm).D) : Option (⟨[.pl (.arr 4 (.int .u64)), .pl (.int .i64)], []⟩ : Tm).D :=
 let a : List (I .i64) := x.1.1
 optF (none) (pontageref1_Fits ((a, ()), ())) fun y0 =>
 brn (bnot y0.1.1)
  (some ((((I.of .u64 0), ((I.of .u64 0), ((I.of .u64 0), ((I.of .u64 0), ())))), ((I.of .i64 4), ())), ()))
  (optF (none) (pontageref1_ToUint256 ((a, ()), ())) fun y1 =>
  some ((y1.1.1, ((I.of .i64 0), ())), ()))

/-- pontage/pontageref1.IsZero -/
noncomputable def pontageref1_IsZero (x : (⟨[.pl (.arr 4 (.int .u64))], []⟩ : Tm).D) : Option (⟨[.pl .bool], []⟩ : Tm).D :=
 let a : (I .u64) × (I .u64) × (I .u64) × (I .u64) × Unit := x.1.1
 some (((Ty.eqb (.arr 4 (.int .u64)) a ((I.of .u64 0), ((I.of .u64 0), ((I.of .u64 0), ((I.of .u64 0), ()))))), ()), ())

end Sym

/- The given functions as plain functions, as the printer told them. -/
namespace Sym
open Go

/-- pontage/uint256.Min -/
noncomputable def uint256_Min (x : (⟨[.pl (.arr 4 (.int .u64)), .pl (.sl (.arr 4 (.int .u64)))], []⟩ : Tm).D) : Option (⟨[.pl (.arr 4 (.int .u64))], []⟩ : Tm).D :=
 let a : (I .u64) × (I .u64) × (I .u64) × (I .u64) × Unit := x.1.1
 let b : List ((I .u64) × (I .u64) × (I .u64) × (I .u64) × Unit) := x.1.2.1
 iter (none) (fun x0 =>
   brn (@I.ltb .i64 x0.1.2.2.1 x0.1.2.1)
    (brn (@inB .i64 x0.1.2.2.1 (@lenL ((I .u64) × ((I .u64) × ((I .u64) × ((I .u64) × Unit)))) x0.1.1))
     (optF (.done (none)) (uint256_Cmp (((@rdL ((I .u64) × ((I .u64) × ((I .u64) × ((I .u64) × Unit)))) ((I.of .u64 0), ((I.of .u64 0), ((I.of .u64 0), ((I.of .u64 0), ())))) x0.1.1 (@I.nat .i64 x0.1.2.2.1)), (x0.2.1, ())), ())) fun y1 =>
     brn (@I.ltb .i64 y1.1.1 (I.of .i64 0))
      (.again ((x0.1.1, (x0.1.2.1, ((@I.add .i64 x0.1.2.2.1 (I.of .i64 1)), ()))), ((@rdL ((I .u64) × ((I .u64) × ((I .u64) × ((I .u64) × Unit)))) ((I.of .u64 0), ((I.of .u64 0), ((I.of .u64 0), ((I.of .u64 0), ())))) x0.1.1 (@I.nat .i64 x0.1.2.2.1)), (x0.2.2.1, ()))))
      (.again ((x0.1.1, (x0.1.2.1, ((@I.add .i64 x0.1.2.2.1 (I.of .i64 1)), ()))), (x0.2.1, (x0.2.2.1, ())))))
     (.done (none)))
    (.done (some ((x0.2.1, ()), ()))))
 K0 ((b, ((I.ofNat .i64 (@lenL ((I .u64) × ((I .u64) × ((I .u64) × ((I .u64) × Unit)))) b)), ((I.of .i64 0), ()))), (a, (((I.of .u64 0), ((I.of .u64 0), ((I.of .u64 0), ((I.of .u64 0), ())))), ())))

/-- pontage/txfee.GasPrice -/
noncomputable def txfee_GasPrice (x : (⟨[.pl (.cons (.int .u64) (.cons (.int .u64) (.cons (.int .u64) (.cons (.arr 4 (.int .u64)) (.cons (.int .u64) (.cons (.arr 4 (.int .u64)) (.cons (.arr 4 (.int .u64)) (.cons (.int .u64) (.cons (.sl (.int .u8)) .nil))))))))), .pl (.arr 4 (.int .u64))], []⟩ : Tm).D) : Option (⟨[.pl (.arr 4 (.int .u64)), .pl (.int .i64)], []⟩ : Tm).D :=
 let a : (I .u64) × (I .u64) × (I .u64) × ((I .u64) × (I .u64) × (I .u64) × (I .u64) × Unit) × (I .u64) × ((I .u64) × (I .u64) × (I .u64) × (I .u64) × Unit) × ((I .u64) × (I .u64) × (I .u64) × (I .u64) × Unit) × (I .u64) × (List (I .u8)) × Unit := x.1.1
 let b : (I .u64) × (I .u64) × (I .u64) × (I .u64) × Unit := x.1.2.1
 optF (none) (uint256_Sub ((a.2.2.2.2.2.1, (b, ())), ())) fun y0 =>
 brn (@I.neb .i64 y0.1.2.1 (I.of .i64 0))
  (some ((((I.of .u64 0), ((I.of .u64 0), ((I.of .u64 0), ((I.of .u64 0), ())))), ((I.of .i64 12), ())), ()))
  (optF (none) (uint256_Min ((a.2.2.2.2.2.2.1, ((y0.1.1 :: []), ())), ())) fun y1 =>
  optF (none) (uint256_Add ((b, (y1.1.1, ())), ())) fun y2 =>
  some ((y2.1.1, (y2.1.2.1, ())), ()))

/-- pontage/pontagelaw23.awake -/
noncomputable def pontagelaw23_awake (x : (⟨[], []⟩ : Tm).D) : Option (⟨[.pl .bool], []⟩ : Tm).D :=
 optF (none) (txfee_GasPrice ((((I.of .u64 0), ((I.of .u64 0), ((I.of .u64 0), (((I.of .u64 0), ((I.of .u64 0), ((I.of .u64 0), ((I.of .u64 0), ())))), ((I.of .u64 0), (((I.of .u64 10), ((I.of .u64 0), ((I.of .u64 0), ((I.of .u64 0), ())))), (((I.of .u64 3), ((I.of .u64 0), ((I.of .u64 0), ((I.of .u64 0), ())))), ((I.of .u64 0), ([], ()))))))))), (((I.of .u64 8), ((I.of .u64 0), ((I.of .u64 0), ((I.of .u64 0), ())))), ())), ())) fun y0 =>
 optF (none) (txfee_GasPrice ((((I.of .u64 0), ((I.of .u64 0), ((I.of .u64 0), (((I.of .u64 0), ((I.of .u64 0), ((I.of .u64 0), ((I.of .u64 0), ())))), ((I.of .u64 0), (((I.of .u64 7), ((I.of .u64 0), ((I.of .u64 0), ((I.of .u64 0), ())))), (((I.of .u64 0), ((I.of .u64 0), ((I.of .u64 0), ((I.of .u64 0), ())))), ((I.of .u64 0), ([], ()))))))))), (((I.of .u64 8), ((I.of .u64 0), ((I.of .u64 0), ((I.of .u64 0), ())))), ())), ())) fun y1 =>
 brn (Ty.eqb (.arr 4 (.int .u64)) y0.1.1 ((I.of .u64 10), ((I.of .u64 0), ((I.of .u64 0), ((I.of .u64 0), ())))))
  (brn (@I.eqb .i64 y0.1.2.1 (I.of .i64 0))
   (some (((@I.eqb .i64 y1.1.2.1 (I.of .i64 12)), ()), ()))
   (some ((false, ()), ())))
  (some ((false, ()), ()))

/-- pontage/txfee.Total -/
noncomputable def txfee_Total (x : (⟨[.pl (.cons (.int .u64) (.cons (.int .u64) (.cons (.int .u64) (.cons (.int .u64) (.cons .bool (.cons (.arr 4 (.int .u64)) (.cons (.arr 4 (.int .u64)) (.cons (.arr 4 (.int .u64)) (.cons (.arr 4 (.int .u64)) (.cons (.arr 4 (.int .u64)) .nil))))))))))], []⟩ : Tm).D) : Option (⟨[.pl (.arr 4 (.int .u64)), .pl (.int .i64)], []⟩ : Tm).D :=
 let a : (I .u64) × (I .u64) × (I .u64) × (I .u64) × (Bool) × ((I .u64) × (I .u64) × (I .u64) × (I .u64) × Unit) × ((I .u64) × (I .u64) × (I .u64) × (I .u64) × Unit) × ((I .u64) × (I .u64) × (I .u64) × (I .u64) × Unit) × ((I .u64) × (I .u64) × (I .u64) × (I .u64) × Unit) × ((I .u64) × (I .u64) × (I .u64) × (I .u64) × Unit) × Unit := x.1.1
 iter (none) (fun x0 =>
   brn (@I.ltb .i64 x0.1.2.1 x0.1.1)
    (brn (@inB .i64 x0.1.2.1 (@lenL ((I .u64) × ((I .u64) × ((I .u64) × ((I .u64) × Unit)))) x0.2.2.2.1))
     (optF (.done (none)) (uint256_Add ((x0.2.2.1, ((@rdL ((I .u64) × ((I .u64) × ((I .u64) × ((I .u64) × Unit)))) ((I.of .u64 0), ((I.of .u64 0), ((I.of .u64 0), ((I.of .u64 0), ())))) x0.2.2.2.1 (@I.nat .i64 x0.1.2.1)), ())), ())) fun y1 =>
     brn (@I.neb .i64 y1.1.2.1 (I.of .i64 0))
      (.done (some ((((I.of .u64 0), ((I.of .u64 0), ((I.of .u64 0), ((I.of .u64 0), ())))), (y1.1.2.1, ())), ())))
      (.again ((x0.1.1, ((@I.add .i64 x0.1.2.1 (I.of .i64 1)), ())), (x0.2.1, (y1.1.1, (x0.2.2.2.1, ()))))))
     (.done (none)))
    (.done (some ((x0.2.2.1, ((I.of .i64 0), ())), ()))))
 K0 (((I.of .i64 3), ((I.of .i64 0), ())), (((I.of .u64 0), ((I.of .u64 0), ((I.of .u64 0), ((I.of .u64 0), ())))), (a.2.2.2.2.2.2.1, ((a.2.2.2.2.2.2.2.1 :: (a.2.2.2.2.2.2.2.2.1 :: (a.2.2.2.2.2.2.2.2.2.1 :: []))), ()))))

/-- pontage/pontageref23.Total -/
noncomputable def pontageref23_Total (x : (⟨[.pl (.cons (.int .u64) (.cons (.int .u64) (.cons (.int .u64) (.cons (.int .u64) (.cons .bool (.cons (.arr 4 (.int .u64)) (.cons (.arr 4 (.int .u64)) (.cons (.arr 4 (.int .u64)) (.cons (.arr 4 (.int .u64)) (.cons (.arr 4 (.int .u64)) .nil))))))))))], []⟩ : Tm).D) : Option (⟨[.pl (.arr 4 (.int .u64)), .pl (.int .i64)], []⟩ : Tm).D :=
 let a : (I .u64) × (I .u64) × (I .u64) × (I .u64) × (Bool) × ((I .u64) × (I .u64) × (I .u64) × (I .u64) × Unit) × ((I .u64) × (I .u64) × (I .u64) × (I .u64) × Unit) × ((I .u64) × (I .u64) × (I .u64) × (I .u64) × Unit) × ((I .u64) × (I .u64) × (I .u64) × (I .u64) × Unit) × ((I .u64) × (I .u64) × (I .u64) × (I .u64) × Unit) × Unit := x.1.1
 optF (none) (pontageref1_FromUint256 ((a.2.2.2.2.2.2.1, ()), ())) fun y0 =>
 optF (none) (pontageref1_FromUint256 ((a.2.2.2.2.2.2.2.1, ()), ())) fun y1 =>
 optF (none) (pontageref1_Add ((y0.1.1, (y1.1.1, ())), ())) fun y2 =>
 optF (none) (pontageref1_FromUint256 ((a.2.2.2.2.2.2.2.2.1, ()), ())) fun y3 =>
 optF (none) (pontageref1_FromUint256 ((a.2.2.2.2.2.2.2.2.2.1, ()), ())) fun y4 =>
 optF (none) (pontageref1_Add ((y3.1.1, (y4.1.1, ())), ())) fun y5 =>
 optF (none) (pontageref1_Add ((y2.1.1, (y5.1.1, ())), ())) fun y6 =>
 optF (none) (pontageref1_Checked ((y6.1.1, ()), ())) fun y7 =>
 some ((y7.1.1, (y7.1.2.1, ())), ())

/-- pontage/pontagelaw23.TxFeeSum -/
noncomputable def pontagelaw23_TxFeeSum (x : (⟨[.pl (.cons (.int .u64) (.cons (.int .u64) (.cons (.int .u64) (.cons (.int .u64) (.cons .bool (.cons (.arr 4 (.int .u64)) (.cons (.arr 4 (.int .u64)) (.cons (.arr 4 (.int .u64)) (.cons (.arr 4 (.int .u64)) (.cons (.arr 4 (.int .u64)) .nil)))))))))), .pl (.arr 4 (.int .u64))], []⟩ : Tm).D) : Option (⟨[.pl .bool], []⟩ : Tm).D :=
 let a : (I .u64) × (I .u64) × (I .u64) × (I .u64) × (Bool) × ((I .u64) × (I .u64) × (I .u64) × (I .u64) × Unit) × ((I .u64) × (I .u64) × (I .u64) × (I .u64) × Unit) × ((I .u64) × (I .u64) × (I .u64) × (I .u64) × Unit) × ((I .u64) × (I .u64) × (I .u64) × (I .u64) × Unit) × ((I .u64) × (I .u64) × (I .u64) × (I .u64) × Unit) × Unit := x.1.1
 let b : (I .u64) × (I .u64) × (I .u64) × (I .u64) × Unit := x.1.2.1
 optF (none) (txfee_Total ((a, ()), ())) fun y0 =>
 optF (none) (pontageref23_Total ((a, ()), ())) fun y1 =>
 optF (none) (txfee_Total ((((I.of .u64 0), ((I.of .u64 0), ((I.of .u64 0), ((I.of .u64 0), (false, (((I.of .u64 0), ((I.of .u64 0), ((I.of .u64 0), ((I.of .u64 0), ())))), ((b.1, ((I.of .u64 0), ((I.of .u64 0), ((I.of .u64 0), ())))), ((b.2.1, ((I.of .u64 0), ((I.of .u64 0), ((I.of .u64 0), ())))), ((b.2.2.1, ((I.of .u64 0), ((I.of .u64 0), ((I.of .u64 0), ())))), ((b.2.2.2.1, ((I.of .u64 0), ((I.of .u64 0), ((I.of .u64 0), ())))), ())))))))))), ()), ())) fun y2 =>
 optF (none) (pontageref23_Total ((((I.of .u64 0), ((I.of .u64 0), ((I.of .u64 0), ((I.of .u64 0), (false, (((I.of .u64 0), ((I.of .u64 0), ((I.of .u64 0), ((I.of .u64 0), ())))), ((b.1, ((I.of .u64 0), ((I.of .u64 0), ((I.of .u64 0), ())))), ((b.2.1, ((I.of .u64 0), ((I.of .u64 0), ((I.of .u64 0), ())))), ((b.2.2.1, ((I.of .u64 0), ((I.of .u64 0), ((I.of .u64 0), ())))), ((b.2.2.2.1, ((I.of .u64 0), ((I.of .u64 0), ((I.of .u64 0), ())))), ())))))))))), ()), ())) fun y3 =>
 brn (Ty.eqb (.arr 4 (.int .u64)) y0.1.1 y1.1.1)
  (brn (@I.eqb .i64 y0.1.2.1 y1.1.2.1)
   (brn (Ty.eqb (.arr 4 (.int .u64)) y2.1.1 y3.1.1)
    (brn (@I.eqb .i64 y2.1.2.1 y3.1.2.1)
     (optF (none) (pontagelaw23_awake ((), ())) fun y4 =>
     some ((y4.1.1, ()), ()))
     (some ((false, ()), ())))
    (some ((false, ()), ())))
   (some ((false, ()), ())))
  (some ((false, ()), ()))

end Sym

/- The contracts of the given functions. -/
namespace Sym
open Go Go.Proofs
set_option maxRecDepth 100000

def tys : List (Nat × Ty) := [(3, (.int .i64)), (4, .bool), (5, (.int .u8)), (6, (.int .u8)), (7, (.cons (.int .i64) (.cons (.int .i64) (.cons .bool (.cons (.int .u8) .nil))))), (8, (.cons (.int .i64) (.cons (.int .i64) (.cons .bool (.cons (.int .u8) .nil))))), (9, .str), (22, (.int .u64)), (28, (.arr 4 (.int .u64))), (29, (.arr 4 (.int .u64))), (32, (.cons (.int .u64) (.cons (.int .u64) (.cons (.int .u64) (.cons (.arr 4 (.int .u64)) (.cons (.int .u64) (.cons (.arr 4 (.int .u64)) (.cons (.arr 4 (.int .u64)) (.cons (.int .u64) (.cons (.sl (.int .u8)) .nil)))))))))), (35, (.int .i64)), (43, (.cons (.int .u64) (.cons (.int .u64) (.cons (.int .u64) (.cons (.int .u64) (.cons .bool (.cons (.arr 4 (.int .u64)) (.cons (.arr 4 (.int .u64)) (.cons (.arr 4 (.int .u64)) (.cons (.arr 4 (.int .u64)) (.cons (.arr 4 (.int .u64)) .nil))))))))))), (74, (.sl (.arr 4 (.int .u64)))), (76, (.sl (.int .i64))), (79, (.int .u64))]
def eqs : List (Nat × Ty) := [(3, (.int .i64)), (4, .bool), (5, (.int .u8)), (6, (.int .u8)), (7, (.cons (.int .i64) (.cons (.int .i64) (.cons .bool (.cons (.int .u8) .nil))))), (8, (.cons (.int .i64) (.cons (.int .i64) (.cons .bool (.cons (.int .u8) .nil))))), (22, (.int .u64)), (28, (.arr 4 (.int .u64))), (29, (.arr 4 (.int .u64))), (35, (.int .i64)), (43, (.cons (.int .u64) (.cons (.int .u64) (.cons (.int .u64) (.cons (.int .u64) (.cons .bool (.cons (.arr 4 (.int .u64)) (.cons (.arr 4 (.int .u64)) (.cons (.arr 4 (.int .u64)) (.cons (.arr 4 (.int .u64)) (.cons (.arr 4 (.int .u64)) .nil))))))))))), (79, (.int .u64))]
theorem tysOk : tys.all (fun x => tiB Try.prog x.1 x.2) = true := by kernel_rfl
theorem eqsOk : eqs.all (fun x => eqiB Try.prog x.1 x.2) = true := by kernel_rfl
theorem follows : Try.prog.follows .mixedOrders = true := by kernel_rfl
theorem noOddP : noOdd Try.prog := noOdd_of (by kernel_rfl)
theorem ok40 : ConOk Try.prog 40 add64C := add64_ok (fn := Try.f40) (by kernel_rfl) (by kernel_rfl) (by kernel_rfl) (by kernel_rfl) (by kernel_rfl)
/-- pontage/uint256.Add -/
noncomputable def uint256_AddC : Con := ⟨_, _, uint256_Add⟩
noncomputable def env14 : Env := mkEnv Try.prog tys eqs [(40, .con add64C)]
def ann14 : Anns := fun p _ => match p with | 1000000 :: _ => none | _ => some (.unroll 6)
theorem ev14 : ∀ x, evalFn env14 ann14 14 ⟨[.pl (.arr 4 (.int .u64)), .pl (.arr 4 (.int .u64))], []⟩ ⟨[.pl (.arr 4 (.int .u64)), .pl (.int .i64)], []⟩ 60 K0 x = uint256_Add x := by intro x; kernel_rfl
theorem ok14 : ConOk Try.prog 14 uint256_AddC := con_of_ev (E := env14) (envOk tysOk eqsOk (show HowsOk Try.prog [(40, .con add64C)] from (And.intro ok40 trivial)) follows) noOddP fun x y h => ⟨ann14, 60, K0, (ev14 x).trans h⟩
theorem ok53 : ConOk Try.prog 53 sub64C := sub64_ok (fn := Try.f53) (by kernel_rfl) (by kernel_rfl) (by kernel_rfl) (by kernel_rfl) (by kernel_rfl)
/-- pontage/uint256.Sub -/
noncomputable def uint256_SubC : Con := ⟨_, _, uint256_Sub⟩
noncomputable def env38 : Env := mkEnv Try.prog tys eqs [(53, .con sub64C)]
def ann38 : Anns := fun p _ => match p with | 1000000 :: _ => none | _ => some (.unroll 6)
theorem ev38 : ∀ x, evalFn env38 ann38 38 ⟨[.pl (.arr 4 (.int .u64)), .pl (.arr 4 (.int .u64))], []⟩ ⟨[.pl (.arr 4 (.int .u64)), .pl (.int .i64)], []⟩ 60 K0 x = uint256_Sub x := by intro x; kernel_rfl
theorem ok38 : ConOk Try.prog 38 uint256_SubC := con_of_ev (E := env38) (envOk tysOk eqsOk (show HowsOk Try.prog [(53, .con sub64C)] from (And.intro ok53 trivial)) follows) noOddP fun x y h => ⟨ann38, 60, K0, (ev38 x).trans h⟩
/-- pontage/uint256.Cmp -/
noncomputable def uint256_CmpC : Con := ⟨_, _, uint256_Cmp⟩
noncomputable def env13 : Env := mkEnv Try.prog tys eqs []
def ann13 : Anns := fun p _ => match p with | 1000000 :: _ => none | _ => some (.unroll 6)
theorem ev13 : ∀ x, evalFn env13 ann13 13 ⟨[.pl (.arr 4 (.int .u64)), .pl (.arr 4 (.int .u64))], []⟩ ⟨[.pl (.int .i64)], []⟩ 60 K0 x = uint256_Cmp x := by intro x; kernel_rfl
theorem ok13 : ConOk Try.prog 13 uint256_CmpC := con_of_ev (E := env13) (envOk tysOk eqsOk (show HowsOk Try.prog [] from trivial) follows) noOddP fun x y h => ⟨ann13, 60, K0, (ev13 x).trans h⟩
/-- pontage/uint256.Min -/
noncomputable def uint256_MinC : Con := ⟨_, _, uint256_Min⟩
noncomputable def env39 : Env := mkEnv Try.prog tys eqs [(13, .con uint256_CmpC)]
def ann39 : Anns := fun p c => match p, c with | [39], 0 => some (.tmpl ⟨[.dead, .dead, .ptr 0 [], .dead, .ptr 1 [], .dead, .dead, .pl (.sl (.arr 4 (.int .u64))), .pl (.int .i64), .pl (.int .i64), .dead, .dead, .dead, .dead, .dead, .dead, .dead, .dead, .dead, .dead], [.box (.arr 4 (.int .u64)) (.pl (.arr 4 (.int .u64))), .box (.arr 4 (.int .u64)) (.pl (.arr 4 (.int .u64)))]⟩) | _, _ => none
theorem ev39 : ∀ x, evalFn env39 ann39 39 ⟨[.pl (.arr 4 (.int .u64)), .pl (.sl (.arr 4 (.int .u64)))], []⟩ ⟨[.pl (.arr 4 (.int .u64))], []⟩ 60 K0 x = uint256_Min x := by intro x; kernel_rfl
theorem ok39 : ConOk Try.prog 39 uint256_MinC := con_of_ev (E := env39) (envOk tysOk eqsOk (show HowsOk Try.prog [(13, .con uint256_CmpC)] from (And.intro ok13 trivial)) follows) noOddP fun x y h => ⟨ann39, 60, K0, (ev39 x).trans h⟩
/-- pontage/txfee.GasPrice -/
noncomputable def txfee_GasPriceC : Con := ⟨_, _, txfee_GasPrice⟩
noncomputable def env12 : Env := mkEnv Try.prog tys eqs [(14, .con uint256_AddC), (38, .con uint256_SubC), (39, .con uint256_MinC)]
def ann12 : Anns := fun _ _ => none
theorem ev12 : ∀ x, evalFn env12 ann12 12 ⟨[.pl (.cons (.int .u64) (.cons (.int .u64) (.cons (.int .u64) (.cons (.arr 4 (.int .u64)) (.cons (.int .u64) (.cons (.arr 4 (.int .u64)) (.cons (.arr 4 (.int .u64)) (.cons (.int .u64) (.cons (.sl (.int .u8)) .nil))))))))), .pl (.arr 4 (.int .u64))], []⟩ ⟨[.pl (.arr 4 (.int .u64)), .pl (.int .i64)], []⟩ 60 K0 x = txfee_GasPrice x := by intro x; kernel_rfl
theorem ok12 : ConOk Try.prog 12 txfee_GasPriceC := con_of_ev (E := env12) (envOk tysOk eqsOk (show HowsOk Try.prog [(14, .con uint256_AddC), (38, .con uint256_SubC), (39, .con uint256_MinC)] from (And.intro ok14 (And.intro ok38 (And.intro ok39 trivial)))) follows) noOddP fun x y h => ⟨ann12, 60, K0, (ev12 x).trans h⟩
/-- pontage/pontagelaw23.awake -/
noncomputable def pontagelaw23_awakeC : Con := ⟨_, _, pontagelaw23_awake⟩
noncomputable def env10 : Env := mkEnv Try.prog tys eqs [(12, .con txfee_GasPriceC)]
def ann10 : Anns := fun _ _ => none
theorem ev10 : ∀ x, evalFn env10 ann10 10 ⟨[], []⟩ ⟨[.pl .bool], []⟩ 60 K0 x = pontagelaw23_awake x := by intro x; kernel_rfl
theorem ok10 : ConOk Try.prog 10 pontagelaw23_awakeC := con_of_ev (E := env10) (envOk tysOk eqsOk (show HowsOk Try.prog [(12, .con txfee_GasPriceC)] from (And.intro ok12 trivial)) follows) noOddP fun x y h => ⟨ann10, 60, K0, (ev10 x).trans h⟩
/-- pontage/txfee.Total -/
noncomputable def txfee_TotalC : Con := ⟨_, _, txfee_Total⟩
noncomputable def env16 : Env := mkEnv Try.prog tys eqs [(14, .con uint256_AddC)]
def ann16 : Anns := fun p c => match p, c with | [16], 0 => some (.tmpl ⟨[.dead, .dead, .ptr 0 [], .dead, .ptr 1 [], .dead, .dead, .dead, .dead, .dead, .dead, .dead, .dead, .dead, .dead, .dead, .whole 2, .pl (.int .i64), .pl (.int .i64), .dead, .dead, .dead, .dead, .dead, .dead, .dead, .dead, .dead, .dead, .dead, .dead, .dead, .dead, .dead], [.box (.arr 4 (.int .u64)) (.pl (.arr 4 (.int .u64))), .box (.arr 4 (.int .u64)) (.pl (.arr 4 (.int .u64))), .row (.arr 4 (.int .u64))]⟩) | _, _ => none
theorem ev16 : ∀ x, evalFn env16 ann16 16 ⟨[.pl (.cons (.int .u64) (.cons (.int .u64) (.cons (.int .u64) (.cons (.int .u64) (.cons .bool (.cons (.arr 4 (.int .u64)) (.cons (.arr 4 (.int .u64)) (.cons (.arr 4 (.int .u64)) (.cons (.arr 4 (.int .u64)) (.cons (.arr 4 (.int .u64)) .nil))))))))))], []⟩ ⟨[.pl (.arr 4 (.int .u64)), .pl (.int .i64)], []⟩ 60 K0 x = txfee_Total x := by intro x; kernel_rfl
theorem ok16 : ConOk Try.prog 16 txfee_TotalC := con_of_ev (E := env16) (envOk tysOk eqsOk (show HowsOk Try.prog [(14, .con uint256_AddC)] from (And.intro ok14 trivial)) follows) noOddP fun x y h => ⟨ann16, 60, K0, (ev16 x).trans h⟩
/-- pontage/pontageref1.Fits -/
noncomputable def pontageref1_FitsC : Con := ⟨_, _, pontageref1_Fits⟩
noncomputable def env54 : Env := mkEnv Try.prog tys eqs []
def ann54 : Anns := fun _ _ => none
theorem ev54 : ∀ x, evalFn env54 ann54 54 ⟨[.pl (.sl (.int .i64))], []⟩ ⟨[.pl .bool], []⟩ 60 K0 x = pontageref1_Fits x := by intro x; kernel_rfl
theorem ok54 : ConOk Try.prog 54 pontageref1_FitsC := con_of_ev (E := env54) (envOk tysOk eqsOk (show HowsOk Try.prog [] from trivial) follows) noOddP fun x y h => ⟨ann54, 60, K0, (ev54 x).trans h⟩
/-- pontage/pontageref1.ToUint256 -/
noncomputable def pontageref1_ToUint256C : Con := ⟨_, _, pontageref1_ToUint256⟩
noncomputable def env55 : Env := mkEnv Try.prog tys eqs []
def ann55 : Anns := fun p c => match p, c with | [1000000, 55], 6 => some (.join ⟨[.pl (.sl (.int .i64)), .dead, .ptr 0 [], .ptr 1 [], .pl (.int .i64), .dead, .dead, .dead, .dead, .dead, .pl (.int .i64), .pl .bool, .dead, .dead, .dead, .dead, .dead, .dead, .dead, .dead, .dead, .dead, .dead, .dead, .dead, .dead, .dead, .dead, .dead, .dead, .dead, .dead, .dead, .dead], [.box (.arr 4 (.int .u64)) (.pl (.arr 4 (.int .u64))), .box (.arr 4 (.int .u64)) (.pl (.arr 4 (.int .u64)))]⟩) | [55], 0 => some (.tmpl ⟨[.pl (.sl (.int .i64)), .dead, .ptr 0 [], .ptr 1 [], .pl (.int .i64), .dead, .dead, .dead, .dead, .dead, .dead, .dead, .dead, .dead, .dead, .dead, .dead, .dead, .dead, .dead, .dead, .dead, .dead, .dead, .dead, .dead, .dead, .dead, .dead, .dead, .dead, .dead, .dead, .dead], [.box (.arr 4 (.int .u64)) (.pl (.arr 4 (.int .u64))), .box (.arr 4 (.int .u64)) (.pl (.arr 4 (.int .u64)))]⟩) | _, _ => none
theorem ev55 : ∀ x, evalFn env55 ann55 55 ⟨[.pl (.sl (.int .i64))], []⟩ ⟨[.pl (.arr 4 (.int .u64))], []⟩ 60 K0 x = pontageref1_ToUint256 x := by intro x; kernel_rfl
theorem ok55 : ConOk Try.prog 55 pontageref1_ToUint256C := con_of_ev (E := env55) (envOk tysOk eqsOk (show HowsOk Try.prog [] from trivial) follows) noOddP fun x y h => ⟨ann55, 60, K0, (ev55 x).trans h⟩
/-- pontage/pontageref1.Checked -/
noncomputable def pontageref1_CheckedC : Con := ⟨_, _, pontageref1_Checked⟩
noncomputable def env42 : Env := mkEnv Try.prog tys eqs [(54, .con pontageref1_FitsC), (55, .con pontageref1_ToUint256C)]
def ann42 : Anns := fun _ _ => none
theorem ev42 : ∀ x, evalFn env42 ann42 42 ⟨[.pl (.sl (.int .i64))], []⟩ ⟨[.pl (.arr 4 (.int .u64)), .pl (.int .i64)], []⟩ 60 K0 x = pontageref1_Checked x := by intro x; kernel_rfl
theorem ok42 : ConOk Try.prog 42 pontageref1_CheckedC := con_of_ev (E := env42) (envOk tysOk eqsOk (show HowsOk Try.prog [(54, .con pontageref1_FitsC), (55, .con pontageref1_ToUint256C)] from (And.intro ok54 (And.intro ok55 trivial))) follows) noOddP fun x y h => ⟨ann42, 60, K0, (ev42 x).trans h⟩
/-- pontage/pontageref1.Add -/
noncomputable def pontageref1_AddC : Con := ⟨_, _, pontageref1_Add⟩
noncomputable def env43 : Env := mkEnv Try.prog tys eqs []
def ann43 : Anns := fun p c => match p, c with | [1000000, 43], 7 => some (.join ⟨[.pl (.sl (.int .i64)), .pl (.sl (.int .i64)), .dead, .dead, .dead, .whole 0, .pl (.int .i64), .pl (.int .i64), .dead, .dead, .dead, .dead, .dead, .dead, .dead, .dead, .dead, .dead, .dead, .dead, .dead, .dead, .dead, .dead, .dead, .dead, .dead, .dead, .dead, .dead, .dead, .dead, .dead, .dead, .dead, .dead, .dead, .dead, .dead, .dead, .dead, .dead, .dead, .dead, .dead, .dead, .dead, .dead, .dead, .dead, .dead, .dead], [.row (.int .i64)]⟩) | [1000000, 43], 9 => some (.join ⟨[.pl (.sl (.int .i64)), .pl (.sl (.int .i64)), .dead, .dead, .dead, .whole 0, .pl (.int .i64), .pl (.int .i64), .dead, .dead, .dead, .dead, .dead, .dead, .dead, .dead, .dead, .dead, .dead, .dead, .dead, .dead, .dead, .dead, .dead, .dead, .dead, .dead, .dead, .dead, .dead, .dead, .dead, .dead, .dead, .dead, .dead, .dead, .dead, .dead, .dead, .dead, .dead, .dead, .dead, .dead, .dead, .dead, .dead, .dead, .dead, .dead], [.row (.int .i64)]⟩) | [43], 0 => some (.tmpl ⟨[.pl (.sl (.int .i64)), .pl (.sl (.int .i64)), .dead, .dead, .dead, .whole 0, .pl (.int .i64), .pl (.int .i64), .dead, .dead, .dead, .dead, .dead, .dead, .dead, .dead, .dead, .dead, .dead, .dead, .dead, .dead, .dead, .dead, .dead, .dead, .dead, .dead, .dead, .dead, .dead, .dead, .dead, .dead, .dead, .dead, .dead, .dead, .dead, .dead, .dead, .dead, .dead, .dead, .dead, .dead, .dead, .dead, .dead, .dead, .dead, .dead], [.row (.int .i64)]⟩) | _, _ => none
theorem ev43 : ∀ x, evalFn env43 ann43 43 ⟨[.pl (.sl (.int .i64)), .pl (.sl (.int .i64))], []⟩ ⟨[.pl (.sl (.int .i64))], []⟩ 60 K0 x = pontageref1_Add x := by intro x; kernel_rfl
theorem ok43 : ConOk Try.prog 43 pontageref1_AddC := con_of_ev (E := env43) (envOk tysOk eqsOk (show HowsOk Try.prog [] from trivial) follows) noOddP fun x y h => ⟨ann43, 60, K0, (ev43 x).trans h⟩
/-- pontage/pontageref1.norm -/
noncomputable def pontageref1_normC : Con := ⟨_, _, pontageref1_norm⟩
noncomputable def env56 : Env := mkEnv Try.prog tys eqs []
def ann56 : Anns := fun p c => match p, c with | [56], 0 => some (.tmpl ⟨[.pl (.sl (.int .i64)), .dead, .dead, .pl (.int .i64), .dead, .dead, .dead, .dead, .dead, .dead, .dead, .dead, .dead, .dead, .dead, .dead, .dead, .dead, .dead, .dead, .dead], []⟩) | _, _ => none
theorem ev56 : ∀ x, evalFn env56 ann56 56 ⟨[.pl (.sl (.int .i64))], []⟩ ⟨[.pl (.sl (.int .i64))], []⟩ 60 K0 x = pontageref1_norm x := by intro x; kernel_rfl
theorem ok56 : ConOk Try.prog 56 pontageref1_normC := con_of_ev (E := env56) (envOk tysOk eqsOk (show HowsOk Try.prog [] from trivial) follows) noOddP fun x y h => ⟨ann56, 60, K0, (ev56 x).trans h⟩
/-- pontage/pontageref1.FromUint256 -/
noncomputable def pontageref1_FromUint256C : Con := ⟨_, _, pontageref1_FromUint256⟩
noncomputable def env44 : Env := mkEnv Try.prog tys eqs [(56, .con pontageref1_normC)]
def ann44 : Anns := fun p c => match p, c with | [44], 0 => some (.tmpl ⟨[.dead, .ptr 0 [], .dead, .whole 1, .pl (.int .i64), .dead, .dead, .dead, .dead, .dead, .dead, .dead, .dead, .dead, .dead, .dead, .dead, .dead, .dead, .dead, .dead, .dead, .dead, .dead, .dead, .dead], [.box (.arr 4 (.int .u64)) (.pl (.arr 4 (.int .u64))), .row (.int .i64)]⟩) | _, _ => none
theorem ev44 : ∀ x, evalFn env44 ann44 44 ⟨[.pl (.arr 4 (.int .u64))], []⟩ ⟨[.pl (.sl (.int .i64))], []⟩ 60 K0 x = pontageref1_FromUint256 x := by intro x; kernel_rfl
theorem ok44 : ConOk Try.prog 44 pontageref1_FromUint256C := con_of_ev (E := env44) (envOk tysOk eqsOk (show HowsOk Try.prog [(56, .con pontageref1_normC)] from (And.intro ok56 trivial)) follows) noOddP fun x y h => ⟨ann44, 60, K0, (ev44 x).trans h⟩
/-- pontage/pontageref23.Total -/
noncomputable def pontageref23_TotalC : Con := ⟨_, _, pontageref23_Total⟩
noncomputable def env17 : Env := mkEnv Try.prog tys eqs [(42, .con pontageref1_CheckedC), (43, .con pontageref1_AddC), (44, .con pontageref1_FromUint256C)]
def ann17 : Anns := fun _ _ => none
theorem ev17 : ∀ x, evalFn env17 ann17 17 ⟨[.pl (.cons (.int .u64) (.cons (.int .u64) (.cons (.int .u64) (.cons (.int .u64) (.cons .bool (.cons (.arr 4 (.int .u64)) (.cons (.arr 4 (.int .u64)) (.cons (.arr 4 (.int .u64)) (.cons (.arr 4 (.int .u64)) (.cons (.arr 4 (.int .u64)) .nil))))))))))], []⟩ ⟨[.pl (.arr 4 (.int .u64)), .pl (.int .i64)], []⟩ 60 K0 x = pontageref23_Total x := by intro x; kernel_rfl
theorem ok17 : ConOk Try.prog 17 pontageref23_TotalC := con_of_ev (E := env17) (envOk tysOk eqsOk (show HowsOk Try.prog [(42, .con pontageref1_CheckedC), (43, .con pontageref1_AddC), (44, .con pontageref1_FromUint256C)] from (And.intro ok42 (And.intro ok43 (And.intro ok44 trivial)))) follows) noOddP fun x y h => ⟨ann17, 60, K0, (ev17 x).trans h⟩
/-- pontage/pontagelaw23.TxFeeSum -/
noncomputable def pontagelaw23_TxFeeSumC : Con := ⟨_, _, pontagelaw23_TxFeeSum⟩
noncomputable def env4 : Env := mkEnv Try.prog tys eqs [(10, .con pontagelaw23_awakeC), (16, .con txfee_TotalC), (17, .con pontageref23_TotalC)]
def ann4 : Anns := fun _ _ => none
theorem ev4 : ∀ x, evalFn env4 ann4 4 ⟨[.pl (.cons (.int .u64) (.cons (.int .u64) (.cons (.int .u64) (.cons (.int .u64) (.cons .bool (.cons (.arr 4 (.int .u64)) (.cons (.arr 4 (.int .u64)) (.cons (.arr 4 (.int .u64)) (.cons (.arr 4 (.int .u64)) (.cons (.arr 4 (.int .u64)) .nil)))))))))), .pl (.arr 4 (.int .u64))], []⟩ ⟨[.pl .bool], []⟩ 60 K0 x = pontagelaw23_TxFeeSum x := by intro x; kernel_rfl
theorem ok4 : ConOk Try.prog 4 pontagelaw23_TxFeeSumC := con_of_ev (E := env4) (envOk tysOk eqsOk (show HowsOk Try.prog [(10, .con pontagelaw23_awakeC), (16, .con txfee_TotalC), (17, .con pontageref23_TotalC)] from (And.intro ok10 (And.intro ok16 (And.intro ok17 trivial)))) follows) noOddP fun x y h => ⟨ann4, 60, K0, (ev4 x).trans h⟩
end Sym

/- Rules for what a printed function computes. -/
namespace Sym
open Go

/-- The result r has the property T. -/
def Wp {R : Type} (T : R → Prop) (r : R) : Prop := T r

theorem Wp.brn {R : Type} {T : R → Prop} {c : Bool} {t f : R} (h1 : c = true → Wp T t) (h2 : c = false → Wp T f) : Wp T (brn c t f) := by
  cases c
  · exact h2 rfl
  · exact h1 rfl

theorem Wp.brnT {R : Type} {T : R → Prop} {c : Bool} {t f : R} (hc : c = true) (h : Wp T t) : Wp T (Sym.brn c t f) := by subst hc; exact h
theorem Wp.brnF {R : Type} {T : R → Prop} {c : Bool} {t f : R} (hc : c = false) (h : Wp T f) : Wp T (Sym.brn c t f) := by subst hc; exact h

theorem Wp.optF {R Y : Type} {T : R → Prop} {fail : R} {o : Option Y} {k : Y → R} {y : Y} (ho : o = some y) (h : Wp T (k y)) : Wp T (optF fail o k) := by subst ho; exact h

theorem Wp.call {R Y : Type} {T : R → Prop} {fail : R} {o : Option Y} {k : Y → R} {P : Y → Prop} (ho : ∃ y, o = some y ∧ P y) (h : ∀ y, P y → Wp T (k y)) : Wp T (Sym.optF fail o k) := by
  obtain ⟨y, rfl, hp⟩ := ho
  exact h y hp

theorem Wp.jn {X R : Type} {T : R → Prop} {J : X → R} {f : (X → R) → R} (P : X → Prop) (h1 : ∀ x, P x → Wp T (J x)) (h2 : ∀ j : X → R, (∀ x, P x → Wp T (j x)) → Wp T (f j)) : Wp T (jn J f) := h2 J h1

/-- One round. -/
def Rnd {X R : Type} (T : R → Prop) (Inv : X → Prop) (μ : X → Nat) (m : Nat) (s : Stp X R) : Prop :=
  match s with
  | .again y => Inv y ∧ μ y < m
  | .done r => Wp T r

theorem Wp.again {X R : Type} {T : R → Prop} {Inv : X → Prop} {μ : X → Nat} {m : Nat} {y : X} (h1 : Inv y) (h2 : μ y < m) : Wp (Rnd T Inv μ m) (.again y : Stp X R) := ⟨h1, h2⟩
theorem Wp.done {X R : Type} {T : R → Prop} {Inv : X → Prop} {μ : X → Nat} {m : Nat} {r : R} (h : Wp T r) : Wp (Rnd T Inv μ m) (.done r : Stp X R) := h

theorem Wp.iter {X R : Type} {T : R → Prop} {fail : R} {f : X → Stp X R} {x : X} (Inv : X → Prop) (μ : X → Nat) {k : Nat} (h : ∀ x, Inv x → Wp (Rnd T Inv μ (μ x)) (f x)) (hi : Inv x) (hm : μ x < k) : Wp T (iter fail f k x) := by
  induction k generalizing x with
  | zero => omega
  | succ k ih =>
    have h1 := h x hi
    unfold Sym.iter
    cases hf : f x with
    | again y =>
      rw [hf] at h1
      exact ih h1.1 (Nat.lt_of_lt_of_le h1.2 (by omega))
    | done r =>
      rw [hf] at h1
      exact h1

/-- Behind one round. -/
def Nxt {X R : Type} (T : R → Prop) (fail : R) (f : X → Stp X R) (k : Nat) (s : Stp X R) : Prop :=
  match s with
  | .again y => Wp T (Sym.iter fail f k y)
  | .done r => Wp T r

theorem Wp.unroll {X R : Type} {T : R → Prop} {fail : R} {f : X → Stp X R} {x : X} {k : Nat} (h : Wp (Nxt T fail f k) (f x)) : Wp T (Sym.iter fail f (k + 1) x) := by
  unfold Sym.iter
  cases hf : f x with
  | again y => rw [hf] at h; exact h
  | done r => rw [hf] at h; exact h
theorem Wp.next {X R : Type} {T : R → Prop} {fail : R} {f : X → Stp X R} {y : X} {k : Nat} (h : Wp T (Sym.iter fail f k y)) : Wp (Nxt T fail f k) (.again y) := h
theorem Wp.stop {X R : Type} {T : R → Prop} {fail : R} {f : X → Stp X R} {r : R} {k : Nat} (h : Wp T r) : Wp (Nxt T fail f k) (.done r) := h

theorem Wp.some {Y : Type} {T : Y → Prop} {y : Y} (h : T y) : Wp (fun o : Option Y => ∃ y, o = some y ∧ T y) (some y) := ⟨y, rfl, h⟩
theorem Wp.out {R : Type} {T : R → Prop} {r : R} (h : Wp T r) : T r := h

/-! Whole numbers of a kind. -/
theorem I.of_val {k : IntKind} {n : Int} (h : k.min ≤ n ∧ n ≤ k.max) : (I.of k n).val = n := wrap_eq_of_range h

theorem of_u64 {n : Int} (h : 0 ≤ n ∧ n < 18446744073709551616) : (I.of .u64 n).val = n := I.of_val ⟨by simp [IntKind.min, IntKind.signed]; omega, by simp [IntKind.max, IntKind.bits, IntKind.signed]; omega⟩
theorem of_i64 {n : Int} (h : -9223372036854775808 ≤ n ∧ n < 9223372036854775808) : (I.of .i64 n).val = n := I.of_val ⟨by simp [IntKind.min, IntKind.bits, IntKind.signed]; omega, by simp [IntKind.max, IntKind.bits, IntKind.signed]; omega⟩
theorem of_u8 {n : Int} (h : 0 ≤ n ∧ n < 256) : (I.of .u8 n).val = n := I.of_val ⟨by simp [IntKind.min, IntKind.signed]; omega, by simp [IntKind.max, IntKind.bits, IntKind.signed]; omega⟩

theorem u64_range (x : I .u64) : 0 ≤ x.val ∧ x.val < 18446744073709551616 := I_range x
theorem i64_range (x : I .i64) : -9223372036854775808 ≤ x.val ∧ x.val < 9223372036854775808 := by
  have h := x.ok
  have h1 : (2 ^ IntKind.i64.bits : Int) = 18446744073709551616 := by decide
  have h2 : (2 ^ (IntKind.i64.bits - 1) : Int) = 9223372036854775808 := by decide
  have h3 : IntKind.i64.signed = true := rfl
  simp only [IntKind.wrap, h1, h2, h3, Bool.true_and, decide_eq_true_eq] at h
  split at h <;> omega
theorem u8_range (x : I .u8) : 0 ≤ x.val ∧ x.val < 256 := by
  have h := x.ok
  simp only [IntKind.wrap, IntKind.bits, IntKind.signed, Bool.false_and, Bool.false_eq_true, if_false] at h
  omega

theorem iff_ltb {k : IntKind} {a b : I k} : I.ltb a b = true ↔ a.val < b.val := by simp [I.ltb]
theorem iff_leb {k : IntKind} {a b : I k} : I.leb a b = true ↔ a.val ≤ b.val := by simp [I.leb]
theorem iff_eqb {k : IntKind} {a b : I k} : I.eqb a b = true ↔ a.val = b.val := by simp [I.eqb]
theorem iff_neb {k : IntKind} {a b : I k} : I.neb a b = true ↔ a.val ≠ b.val := by simp [I.neb]
theorem niff_ltb {k : IntKind} {a b : I k} : I.ltb a b = false ↔ b.val ≤ a.val := by simp [I.ltb]
theorem niff_leb {k : IntKind} {a b : I k} : I.leb a b = false ↔ b.val < a.val := by simp [I.leb]
theorem niff_eqb {k : IntKind} {a b : I k} : I.eqb a b = false ↔ a.val ≠ b.val := by simp [I.eqb]
theorem niff_neb {k : IntKind} {a b : I k} : I.neb a b = false ↔ a.val = b.val := by simp [I.neb]
theorem iff_nz {k : IntKind} {a : I k} : I.nz a = true ↔ a.val ≠ 0 := by simp [I.nz]
theorem iff_nn {k : IntKind} {a : I k} : I.nn a = true ↔ 0 ≤ a.val := by simp [I.nn]
theorem iff_inB {k : IntKind} {a : I k} {n : Nat} : inB a n = true ↔ 0 ≤ a.val ∧ a.val < n := by simp [inB]
theorem iff_fits {n : Nat} : fitsLen n = true ↔ n ≤ 1073741824 := by simp [fitsLen]

theorem I.eq_of {k : IntKind} {a b : I k} (h : I.eqb a b = true) : a = b := I.ext' (iff_eqb.1 h)
theorem ofNat_i64 {n : Nat} (h : n < 9223372036854775808) : (I.ofNat .i64 n).val = n := of_i64 ⟨by omega, by omega⟩
theorem add_i64 {a b : I .i64} (h : -9223372036854775808 ≤ a.val + b.val ∧ a.val + b.val < 9223372036854775808) : (I.add a b).val = a.val + b.val := of_i64 h
theorem sub_i64 {a b : I .i64} (h : -9223372036854775808 ≤ a.val - b.val ∧ a.val - b.val < 9223372036854775808) : (I.sub a b).val = a.val - b.val := of_i64 h
theorem mul_i64 {a b : I .i64} (h : -9223372036854775808 ≤ a.val * b.val ∧ a.val * b.val < 9223372036854775808) : (I.mul a b).val = a.val * b.val := of_i64 h
theorem rem_i64 {a b : I .i64} (h : 0 ≤ a.val) (h2 : 0 < b.val) : (I.rem a b).val = a.val % b.val := by
  have ha := i64_range a
  have hb := i64_range b
  have e : a.val.tmod b.val = a.val % b.val := Int.tmod_eq_emod_of_nonneg h
  have h3 := Int.emod_nonneg a.val (b := b.val) (by omega)
  have h4 := Int.emod_lt_of_pos a.val h2
  unfold I.rem
  rw [e]
  exact of_i64 ⟨by omega, by omega⟩
theorem quo_i64 {a b : I .i64} (h : 0 ≤ a.val) (h2 : 0 < b.val) : (I.quo a b).val = a.val / b.val := by
  have ha := i64_range a
  have e : a.val.tdiv b.val = a.val / b.val := Int.tdiv_eq_ediv_of_nonneg h
  have h3 : 0 ≤ a.val / b.val := Int.ediv_nonneg h (by omega)
  have h4 : a.val / b.val ≤ a.val := Int.ediv_le_self _ h
  unfold I.quo
  rw [e]
  exact of_i64 ⟨by omega, by omega⟩
theorem add_u64 {a b : I .u64} (h : a.val + b.val < 18446744073709551616) : (I.add a b).val = a.val + b.val := of_u64 ⟨by have := u64_range a; have := u64_range b; omega, h⟩
theorem sub_u64 {a b : I .u64} (h : b.val ≤ a.val) : (I.sub a b).val = a.val - b.val := of_u64 ⟨by omega, by have := u64_range a; have := u64_range b; omega⟩
theorem rem_u64 {a b : I .u64} (h2 : b.val ≠ 0) : (I.rem a b).val = a.val % b.val := by
  have ha := u64_range a
  have hb := u64_range b
  have e : a.val.tmod b.val = a.val % b.val := Int.tmod_eq_emod_of_nonneg ha.1
  have h3 := Int.emod_nonneg a.val (b := b.val) (by omega)
  have h4 := Int.emod_lt_of_pos a.val (b := b.val) (by omega)
  unfold I.rem
  rw [e]
  exact of_u64 ⟨by omega, by omega⟩
theorem quo_u64 {a b : I .u64} : (I.quo a b).val = a.val / b.val := by
  have ha := u64_range a
  have hb := u64_range b
  have e : a.val.tdiv b.val = a.val / b.val := Int.tdiv_eq_ediv_of_nonneg ha.1
  have h3 : 0 ≤ a.val / b.val := Int.ediv_nonneg ha.1 hb.1
  have h4 : a.val / b.val ≤ a.val := Int.ediv_le_self _ ha.1
  unfold I.quo
  rw [e]
  exact of_u64 ⟨by omega, by omega⟩
theorem nn_u64 (a : I .u64) : I.nn a = true := iff_nn.2 (u64_range a).1
/-- A power of two by a shift of one. -/
theorem shl_one {a : I .u64} (h : a.val < 64) : (I.shl (I.of .u64 1) a).val = 2 ^ a.val.toNat := by
  have ha := u64_range a
  have hm : min a.val.toNat IntKind.u64.bits = a.val.toNat := by
    have : IntKind.u64.bits = 64 := rfl
    omega
  have h1 : (I.of .u64 1).val = 1 := rfl
  unfold I.shl
  rw [hm, h1, Int.one_mul]
  refine of_u64 ⟨Int.le_of_lt (Int.pow_pos (by decide)), ?_⟩
  have h3 : 2 ^ a.val.toNat ≤ 2 ^ 63 := Nat.pow_le_pow_right (by decide) (by omega)
  have h4 : ((2 ^ a.val.toNat : Nat) : Int) = 2 ^ a.val.toNat := by simp
  rw [← h4]
  omega
end Sym

/- Natural numbers by digits of 65536: what the reference's first functions compute. -/
namespace Sym
open Go

abbrev Dg : Type := I .i64

/-- The digits' value. -/
def bv : List Dg → Nat
  | [] => 0
  | d :: l => d.nat + 65536 * bv l

def DigOk (d : Dg) : Prop := 0 ≤ d.val ∧ d.val < 65536
def Digs (l : List Dg) : Prop := ∀ d ∈ l, DigOk d

/-- No zero stands in front. -/
def Lead : List Dg → Prop
  | [] => True
  | [d] => d.val ≠ 0
  | _ :: e :: l => Lead (e :: l)

/-- l is the number n. -/
structure IsB (l : List Dg) (n : Nat) : Prop where
  dig : Digs l
  lead : Lead l
  val : bv l = n

theorem DigOk.nat {d : Dg} (h : DigOk d) : (d.nat : Int) = d.val ∧ d.nat < 65536 := by
  unfold DigOk at h
  unfold I.nat
  omega

theorem digs_cons {d : Dg} {l : List Dg} : Digs (d :: l) ↔ DigOk d ∧ Digs l := by
  unfold Digs
  simp
theorem digs_app {l r : List Dg} : Digs (l ++ r) ↔ Digs l ∧ Digs r := by
  unfold Digs
  simp only [List.mem_append]
  exact ⟨fun h => ⟨fun d hd => h d (.inl hd), fun d hd => h d (.inr hd)⟩, fun h d hd => hd.elim (h.1 d) (h.2 d)⟩
theorem digs_take {l : List Dg} (h : Digs l) (n : Nat) : Digs (l.take n) := fun d hd => h d (List.mem_of_mem_take hd)
theorem digs_drop {l : List Dg} (h : Digs l) (n : Nat) : Digs (l.drop n) := fun d hd => h d (List.mem_of_mem_drop hd)

theorem bv_lt : ∀ {l : List Dg}, Digs l → bv l < 65536 ^ l.length
  | [], _ => by simp [bv]
  | d :: l, h => by
    have h := digs_cons.1 h
    have h1 := h.1.nat.2
    have h2 := bv_lt h.2
    simp only [bv, List.length_cons, Nat.pow_succ]
    omega

theorem lead_cons {d : Dg} {l : List Dg} (h : Lead (d :: l)) : Lead l := by
  cases l with
  | nil => trivial
  | cons e l => exact h

theorem bv_pos : ∀ {l : List Dg}, Digs l → Lead l → l ≠ [] → 0 < bv l
  | [], _, _, h => absurd rfl h
  | [d], hd, hl, _ => by
    have h := (digs_cons.1 hd).1.nat.1
    have : d.val ≠ 0 := hl
    simp only [bv]
    omega
  | d :: e :: l, hd, hl, _ => by
    have := bv_pos (l := e :: l) (digs_cons.1 hd).2 hl (by simp)
    simp only [bv] at *
    omega

theorem isB_nil : IsB [] 0 := ⟨fun _ h => by simp at h, trivial, rfl⟩

theorem dig_ext {d e : Dg} (hd : DigOk d) (he : DigOk e) (h : d.nat = e.nat) : d = e := by
  apply I.ext'
  have := hd.nat.1
  have := he.nat.1
  omega

/-- A number has one list. -/
theorem IsB.unique : ∀ {l r : List Dg} {n : Nat}, IsB l n → IsB r n → l = r
  | [], [], _, _, _ => rfl
  | [], e :: r, n, h1, h2 => by
    have := bv_pos h2.dig h2.lead (by simp)
    have h3 := h1.val
    have h4 := h2.val
    simp only [bv] at h3 h4 this
    omega
  | d :: l, [], n, h1, h2 => by
    have := bv_pos h1.dig h1.lead (by simp)
    have h3 := h1.val
    have h4 := h2.val
    simp only [bv] at h3 h4 this
    omega
  | d :: l, e :: r, n, h1, h2 => by
    have d1 := digs_cons.1 h1.dig
    have d2 := digs_cons.1 h2.dig
    have h3 := h1.val
    have h4 := h2.val
    simp only [bv] at h3 h4
    have := d1.1.nat.2
    have := d2.1.nat.2
    rw [dig_ext d1.1 d2.1 (by omega), IsB.unique (n := bv l) ⟨d1.2, lead_cons h1.lead, rfl⟩ ⟨d2.2, lead_cons h2.lead, by omega⟩]

theorem bv_app : ∀ (l r : List Dg), bv (l ++ r) = bv l + 65536 ^ l.length * bv r
  | [], r => by simp [bv]
  | d :: l, r => by
    simp only [List.cons_append, bv, List.length_cons, bv_app l r, Nat.pow_succ, Nat.mul_add]
    rw [Nat.mul_comm (65536 ^ l.length) 65536, Nat.mul_assoc]
    omega

theorem lead_snoc : ∀ (l : List Dg) (d : Dg), d.val ≠ 0 → Lead (l ++ [d])
  | [], d, h => h
  | [e], d, h => h
  | e :: f :: l, d, h => lead_snoc (f :: l) d h

theorem bv_ge : ∀ {l : List Dg}, Digs l → Lead l → l ≠ [] → 65536 ^ (l.length - 1) ≤ bv l
  | [], _, _, h => absurd rfl h
  | [d], hd, hl, _ => by
    have h := (digs_cons.1 hd).1.nat.1
    have : d.val ≠ 0 := hl
    simp only [bv, List.length_singleton, Nat.sub_self, Nat.pow_zero]
    omega
  | d :: e :: l, hd, hl, _ => by
    have := bv_ge (l := e :: l) (digs_cons.1 hd).2 hl (by simp)
    simp only [List.length_cons, Nat.add_sub_cancel] at this ⊢
    simp only [bv, Nat.pow_succ] at *
    omega

theorem IsB.len {l : List Dg} {n k : Nat} (h : IsB l n) : l.length ≤ k ↔ n < 65536 ^ k := by
  have h1 := bv_lt h.dig
  rw [h.val] at h1
  constructor
  · intro hk
    exact Nat.lt_of_lt_of_le h1 (Nat.pow_le_pow_right (by decide) hk)
  · intro hn
    rcases Nat.lt_or_ge k l.length with hk | hk
    · have h2 := bv_ge h.dig h.lead (by intro e; subst e; simp at hk)
      rw [h.val] at h2
      have h3 : 65536 ^ k ≤ 65536 ^ (l.length - 1) := Nat.pow_le_pow_right (by decide) (by omega)
      omega
    · exact hk

theorem rdL_eq {X : Type} (d : X) : ∀ (l : List X) (i : Nat) (h : i < l.length), rdL d l i = l[i]
  | x :: l, 0, _ => rfl
  | x :: l, i + 1, h => rdL_eq d l i (by simpa using h)

theorem K0_ge (n : Nat) (h : n < 2 ^ 64) : n < K0 := by rw [K0_eq]; exact h

/-- A list of digits without the zeros in front. -/
theorem norm_ok (l : List Dg) (hd : Digs l) (hl : l.length ≤ 1073741824) : ∃ r, pontageref1_norm ((l, ()), ()) = some ((r, ()), ()) ∧ IsB r (bv l) := by
  have key : Wp (fun o => ∃ r, o = some ((r, ()), ()) ∧ IsB r (bv l)) (pontageref1_norm ((l, ()), ())) := by
    have hlen : (I.ofNat .i64 (lenL l)).val = l.length := ofNat_i64 (by show l.length < _; omega)
    have c1 : (I.of .i64 1).val = 1 := rfl
    have c0 : (I.of .i64 0).val = 0 := rfl
    unfold pontageref1_norm
    refine Wp.iter (fun x => x.1.1 = l ∧ 0 ≤ x.1.2.1.val ∧ x.1.2.1.val ≤ (l.length : Int) ∧ bv (l.take x.1.2.1.val.toNat) = bv l) (fun x => x.1.2.1.val.toNat) ?_ ?_ ?_
    · rintro ⟨⟨l', i, ⟨⟩⟩, ⟨⟩⟩ ⟨e1, hi0, hi1, hb⟩
      simp only at e1 hi0 hi1 hb
      subst e1
      have cut : inB' i (lenL l') = true := by
        show (decide (0 ≤ i.val) && decide (i.val ≤ ((l'.length : Nat) : Int))) = true
        simp [hi0, hi1]
      have sub : subL l' 0 (I.nat i) = l'.take i.val.toNat := by simp [subL, I.nat]
      refine Wp.brn (fun h => ?_) (fun h => ?_)
      · have h := iff_ltb.1 h
        simp only [c0] at h
        have hs : (I.sub i (I.of .i64 1)).val = i.val - 1 := by rw [sub_i64 (by omega)]; omega
        have hidx : (I.nat (I.sub i (I.of .i64 1))) = i.val.toNat - 1 := by unfold I.nat; omega
        have hlt : i.val.toNat - 1 < l'.length := by omega
        have hrd : rdL (I.of .i64 0) l' (I.nat (I.sub i (I.of .i64 1))) = l'[i.val.toNat - 1] := by rw [hidx]; exact rdL_eq _ _ _ hlt
        have htk : l'.take i.val.toNat = l'.take (i.val.toNat - 1) ++ [l'[i.val.toNat - 1]] := by
          rw [List.take_append_getElem hlt]
          congr 1
          omega
        refine Wp.brnT (iff_inB.2 ⟨by show 0 ≤ (I.sub i (I.of .i64 1)).val; omega, by show (I.sub i (I.of .i64 1)).val < (l'.length : Int); omega⟩) ?_
        refine Wp.brn (fun h2 => ?_) (fun h2 => ?_)
        · have h2 := iff_eqb.1 h2
          simp only [hrd] at h2
          refine Wp.again ⟨rfl, ?_, ?_, ?_⟩ ?_
          · show 0 ≤ (I.sub i (I.of .i64 1)).val; omega
          · show (I.sub i (I.of .i64 1)).val ≤ _; omega
          · show bv (l'.take (I.sub i (I.of .i64 1)).val.toNat) = _
            have e : (I.sub i (I.of .i64 1)).val.toNat = i.val.toNat - 1 := by omega
            rw [e, ← hb, htk, bv_app]
            have hz : (l'[i.val.toNat - 1]).nat = 0 := by unfold I.nat; rw [h2]; rfl
            simp [bv, hz]
          · show (I.sub i (I.of .i64 1)).val.toNat < _
            simp only; omega
        · have h2 := niff_eqb.1 h2
          simp only [hrd] at h2
          refine Wp.done (Wp.brnT cut ⟨_, rfl, ?_⟩)
          show IsB (subL l' 0 (I.nat i)) _
          rw [sub]
          refine ⟨digs_take hd _, ?_, hb⟩
          rw [htk]
          exact lead_snoc _ _ h2
      · have h := niff_ltb.1 h
        simp only [c0] at h
        refine Wp.done (Wp.brnT cut ⟨_, rfl, ?_⟩)
        show IsB (subL l' 0 (I.nat i)) _
        rw [sub]
        have e : i.val.toNat = 0 := by omega
        rw [e] at hb ⊢
        simp only [List.take_zero] at hb ⊢
        rw [← hb]
        exact isB_nil
    · refine ⟨rfl, ?_, ?_, ?_⟩
      · show 0 ≤ (I.ofNat .i64 (lenL l)).val; omega
      · show (I.ofNat .i64 (lenL l)).val ≤ _; omega
      · show bv (l.take (I.ofNat .i64 (lenL l)).val.toNat) = _
        rw [hlen, Int.toNat_natCast, List.take_length]
    · refine K0_ge _ ?_
      show (I.ofNat .i64 (lenL l)).val.toNat < _
      omega
  exact key.out
end Sym

/- Natural numbers by digits of 65536: from and to 256 bits, comparison. -/
namespace Sym
open Go

theorem setAt_eq {X : Type} : ∀ (l : List X) (i : Nat) (v : X), setAt l i v = l.set i v
  | [], _, _ => rfl
  | _ :: _, 0, _ => rfl
  | x :: l, i + 1, v => by simp [setAt, setAt_eq l i v]

theorem and_mask (k : IntKind) (hk : k.bits = 64) (x : I k) (h : 0 ≤ x.val) (hx : x.val < 18446744073709551616) : ((BitVec.ofInt k.bits x.val &&& BitVec.ofInt k.bits 65535).toNat : Int) = x.val % 65536 := by
  rw [hk, BitVec.toNat_and]
  have h1 : (BitVec.ofInt 64 65535).toNat = 2 ^ 16 - 1 := rfl
  rw [h1, Nat.and_two_pow_sub_one_eq_mod, BitVec.toNat_ofInt]
  omega

theorem and_u64 (x : I .u64) : (I.and x (I.of .u64 65535)).val = x.val % 65536 := by
  have h := u64_range x
  have := and_mask .u64 rfl x h.1 h.2
  have e : (I.of .u64 65535).val = 65535 := rfl
  show (I.of .u64 _).val = _
  rw [e, this]
  exact of_u64 ⟨by omega, by omega⟩

theorem and_i64 (x : I .i64) (h : 0 ≤ x.val) : (I.and x (I.of .i64 65535)).val = x.val % 65536 := by
  have h2 := i64_range x
  have := and_mask .i64 rfl x h (by omega)
  have e : (I.of .i64 65535).val = 65535 := rfl
  show (I.of .i64 _).val = _
  rw [e, this]
  exact of_i64 ⟨by omega, by omega⟩

theorem fdiv_pos (a : Int) (n : Nat) (h : 0 ≤ a) : a.fdiv ((2 : Int) ^ n) = a / (2 : Int) ^ n := by
  have h2 : (0 : Int) ≤ (2 : Int) ^ n := Int.le_of_lt (Int.pow_pos (by decide))
  rw [Int.fdiv_eq_ediv_of_nonneg _ h2]

theorem shr_u64 (x s : I .u64) (hs : s.val < 64) : (I.shr x s).val = x.val / (2 : Int) ^ s.val.toNat := by
  have hx := u64_range x
  have h0 := u64_range s
  have hm : min s.val.toNat IntKind.u64.bits = s.val.toNat := by
    have : IntKind.u64.bits = 64 := rfl
    omega
  unfold I.shr
  rw [hm, fdiv_pos _ _ hx.1]
  have h2 : (0 : Int) < (2 : Int) ^ s.val.toNat := Int.pow_pos (by decide)
  have h3 : 0 ≤ x.val / (2 : Int) ^ s.val.toNat := Int.ediv_nonneg hx.1 (by omega)
  have h4 : x.val / (2 : Int) ^ s.val.toNat ≤ x.val := Int.ediv_le_self _ hx.1
  exact of_u64 ⟨by omega, by omega⟩

theorem shr_i64_16 (x : I .i64) (h : 0 ≤ x.val) : (I.shr x (I.of .u64 16)).val = x.val / 65536 := by
  have hx := i64_range x
  have hm : min (I.of .u64 16).val.toNat IntKind.i64.bits = 16 := rfl
  unfold I.shr
  rw [hm, fdiv_pos _ _ h]
  have e : (2 : Int) ^ 16 = 65536 := by decide
  rw [e]
  exact of_i64 ⟨by omega, by omega⟩

/-- The j-th digit of 256 bits. -/
def digF (a : U) (j : Nat) : Dg := I.conv .i64 (I.and (I.shr (Arr.sel (I.of .u64 0) 4 a (j / 4)) (I.of .u64 (16 * (j % 4) : Nat))) (I.of .u64 65535))

theorem digF_nat (a : U) (j : Nat) : (digF a j).val = (Arr.sel (I.of .u64 0) 4 a (j / 4)).val / (2 : Int) ^ (16 * (j % 4)) % 65536 := by
  have h1 : (I.of .u64 (16 * (j % 4) : Nat)).val = (16 * (j % 4) : Nat) := of_u64 ⟨by omega, by omega⟩
  have h2 := shr_u64 (Arr.sel (I.of .u64 0) 4 a (j / 4)) (I.of .u64 (16 * (j % 4) : Nat)) (by omega)
  rw [h1, Int.toNat_natCast] at h2
  unfold digF
  show (I.of .i64 _).val = _
  rw [and_u64, h2]
  exact of_i64 ⟨by omega, by omega⟩

theorem digF_ok (a : U) (j : Nat) : DigOk (digF a j) := by
  unfold DigOk
  rw [digF_nat]
  omega

theorem limb (x : I .u64) (d0 d1 d2 d3 : Nat) (h0 : (d0 : Int) = x.val / (2 : Int) ^ 0 % 65536) (h1 : (d1 : Int) = x.val / (2 : Int) ^ 16 % 65536) (h2 : (d2 : Int) = x.val / (2 : Int) ^ 32 % 65536) (h3 : (d3 : Int) = x.val / (2 : Int) ^ 48 % 65536) :
    x.nat = d0 + 65536 * d1 + 4294967296 * d2 + 281474976710656 * d3 := by
  have p0 : (2 : Int) ^ 0 = 1 := by decide
  have p1 : (2 : Int) ^ 16 = 65536 := by decide
  have p2 : (2 : Int) ^ 32 = 4294967296 := by decide
  have p3 : (2 : Int) ^ 48 = 281474976710656 := by decide
  rw [p0] at h0
  rw [p1] at h1
  rw [p2] at h2
  rw [p3] at h3
  have hx := u64_range x
  have hn := nat_val x
  omega

theorem comb (a0 a1 a2 a3 d0 d1 d2 d3 d4 d5 d6 d7 d8 d9 d10 d11 d12 d13 d14 d15 : Nat) (v0 : a0 = d0 + 65536 * d1 + 4294967296 * d2 + 281474976710656 * d3) (v1 : a1 = d4 + 65536 * d5 + 4294967296 * d6 + 281474976710656 * d7)
    (v2 : a2 = d8 + 65536 * d9 + 4294967296 * d10 + 281474976710656 * d11) (v3 : a3 = d12 + 65536 * d13 + 4294967296 * d14 + 281474976710656 * d15) :
    d0 + 65536 * (d1 + 65536 * (d2 + 65536 * (d3 + 65536 * (d4 + 65536 * (d5 + 65536 * (d6 + 65536 * (d7 + 65536 * (d8 + 65536 * (d9 + 65536 * (d10 + 65536 * (d11 + 65536 * (d12 + 65536 * (d13 + 65536 * (d14 + 65536 * (d15 + 65536 * 0))))))))))))))) =
      a0 + 18446744073709551616 * (a1 + 18446744073709551616 * (a2 + 18446744073709551616 * a3)) := by
  subst v0 v1 v2 v3
  omega

theorem digs_of_U (a : U) : bv ((List.range 16).map (digF a)) = a.val := by
  obtain ⟨a0, a1, a2, a3, ⟨⟩⟩ := a
  have n : ∀ j, ((digF (a0, a1, a2, a3, ()) j).nat : Int) = (Arr.sel (I.of .u64 0) 4 (a0, a1, a2, a3, ()) (j / 4)).val / (2 : Int) ^ (16 * (j % 4)) % 65536 := fun j => (digF_ok _ j).nat.1.trans (digF_nat _ j)
  exact comb _ _ _ _ _ _ _ _ _ _ _ _ _ _ _ _ _ _ _ _ (limb a0 _ _ _ _ (n 0) (n 1) (n 2) (n 3)) (limb a1 _ _ _ _ (n 4) (n 5) (n 6) (n 7)) (limb a2 _ _ _ _ (n 8) (n 9) (n 10) (n 11)) (limb a3 _ _ _ _ (n 12) (n 13) (n 14) (n 15))

theorem FromUint256_ok (a : U) : ∃ r, pontageref1_FromUint256 ((a, ()), ()) = some ((r, ()), ()) ∧ IsB r a.val := by
  have key : Wp (fun o => ∃ r, o = some ((r, ()), ()) ∧ IsB r a.val) (pontageref1_FromUint256 ((a, ()), ())) := by
    have c16 : (I.of .i64 16).val = 16 := rfl
    have c4 : (I.of .i64 4).val = 4 := rfl
    have c1 : (I.of .i64 1).val = 1 := rfl
    unfold pontageref1_FromUint256
    refine Wp.iter (fun x => 0 ≤ x.1.1.val ∧ x.1.1.val ≤ 16 ∧ x.2.1 = a ∧ x.2.2.1 = (List.range x.1.1.val.toNat).map (digF a) ++ List.replicate (16 - x.1.1.val.toNat) (I.of .i64 0)) (fun x => (16 - x.1.1.val).toNat) ?_ ?_ ?_
    · rintro ⟨⟨i, ⟨⟩⟩, a', out, ⟨⟩⟩ ⟨hi0, hi1, e1, e2⟩
      simp only at hi0 hi1 e1 e2
      subst e1
      refine Wp.brn (fun h => ?_) (fun h => ?_)
      · have h := iff_ltb.1 h
        simp only [c16] at h
        have hq : (I.quo i (I.of .i64 4)).val = i.val / 4 := quo_i64 hi0 (by decide)
        have hr : (I.rem i (I.of .i64 4)).val = i.val % 4 := rem_i64 hi0 (by decide)
        have hlen : out.length = 16 := by rw [e2]; simp; omega
        have hs : (I.add i (I.of .i64 1)).val = i.val + 1 := by rw [add_i64 (by omega)]; omega
        have hm : (I.mul (I.of .i64 16) (I.rem i (I.of .i64 4))).val = 16 * (i.val % 4) := by rw [mul_i64 (by rw [c16, hr]; omega), hr, c16]
        refine Wp.brnT (iff_inB.2 ⟨by show 0 ≤ (I.quo i (I.of .i64 4)).val; omega, by show (I.quo i (I.of .i64 4)).val < ((4 : Nat) : Int); omega⟩) ?_
        refine Wp.brnT (nn_u64 _) ?_
        refine Wp.brnT (iff_inB.2 ⟨hi0, by show i.val < ((out.length : Nat) : Int); omega⟩) ?_
        refine Wp.again ⟨?_, ?_, rfl, ?_⟩ ?_
        · show 0 ≤ (I.add i (I.of .i64 1)).val; omega
        · show (I.add i (I.of .i64 1)).val ≤ 16; omega
        · have ed : I.conv .i64 (I.and (I.shr (Arr.sel (I.of .u64 0) 4 a' (I.nat (I.quo i (I.of .i64 4)))) (I.conv .u64 (I.mul (I.of .i64 16) (I.rem i (I.of .i64 4))))) (I.of .u64 65535)) = digF a' i.val.toNat := by
            unfold digF
            have e1 : I.nat (I.quo i (I.of .i64 4)) = i.val.toNat / 4 := by unfold I.nat; omega
            have e2 : I.conv .u64 (I.mul (I.of .i64 16) (I.rem i (I.of .i64 4))) = I.of .u64 (16 * (i.val.toNat % 4) : Nat) := by
              show I.of .u64 _ = _
              rw [hm]
              congr 1
              omega
            rw [e1, e2]
          show setAt out (I.nat i) _ = (List.range (I.add i (I.of .i64 1)).val.toNat).map (digF a') ++ List.replicate (16 - (I.add i (I.of .i64 1)).val.toNat) (I.of .i64 0)
          have e3 : (I.add i (I.of .i64 1)).val.toNat = i.val.toNat + 1 := by omega
          have e4 : I.nat i = ((List.range i.val.toNat).map (digF a')).length := by simp [I.nat]
          have e5 : 16 - i.val.toNat = (16 - (i.val.toNat + 1)) + 1 := by omega
          rw [setAt_eq, e2, e3, e4, List.set_append_right _ _ (Nat.le_refl _), Nat.sub_self, e5, List.replicate_succ, List.set_cons_zero, List.range_succ, List.map_append, List.map_cons, List.map_nil, List.append_assoc]
          show _ ++ _ = _ ++ ([_] ++ _)
          rw [← ed]
          rfl
        · show (16 - (I.add i (I.of .i64 1)).val).toNat < _
          simp only; omega
      · have h := niff_ltb.1 h
        simp only [c16] at h
        have hi : i.val.toNat = 16 := by omega
        rw [hi] at e2
        simp only [Nat.sub_self, List.replicate_zero, List.append_nil] at e2
        subst e2
        have hd : Digs ((List.range 16).map (digF a')) := by
          intro d hd
          rw [List.mem_map] at hd
          obtain ⟨j, _, rfl⟩ := hd
          exact digF_ok a' j
        obtain ⟨r, hr, hB⟩ := norm_ok _ hd (by simp)
        exact Wp.done (Wp.optF hr ⟨r, rfl, hB.dig, hB.lead, hB.val.trans (digs_of_U a')⟩)
    · exact ⟨by show 0 ≤ (I.of .i64 0).val; decide, by show (I.of .i64 0).val ≤ 16; decide, rfl, rfl⟩
    · exact K0_ge _ (by show (16 - (I.of .i64 0).val).toNat < _; decide)
  exact key.out
end Sym

/- Natural numbers by digits of 65536: to 256 bits, comparison. -/
namespace Sym
open Go

theorem shl_u64 (x s : I .u64) (hs : s.val < 64) (h : x.val * (2 : Int) ^ s.val.toNat < 18446744073709551616) : (I.shl x s).val = x.val * (2 : Int) ^ s.val.toNat := by
  have hx := u64_range x
  have h0 := u64_range s
  have hm : min s.val.toNat IntKind.u64.bits = s.val.toNat := by
    have : IntKind.u64.bits = 64 := rfl
    omega
  have h2 : (0 : Int) ≤ (2 : Int) ^ s.val.toNat := Int.le_of_lt (Int.pow_pos (by decide))
  unfold I.shl
  rw [hm]
  exact of_u64 ⟨Int.mul_nonneg hx.1 h2, h⟩

theorem add_shl (x : I .u64) (d r S : Nat) (hd : d < 65536) (hr : r < 4) (hS : (S : Int) = (2 : Int) ^ (16 * r)) (hx : x.nat < S) (hl : S ≤ 281474976710656) : (I.add x (I.shl (I.of .u64 d) (I.of .u64 (16 * r : Nat)))).nat = x.nat + S * d := by
  have h1 : (I.of .u64 (16 * r : Nat)).val = (16 * r : Nat) := of_u64 ⟨by omega, by omega⟩
  have h2 : (I.of .u64 (d : Int)).val = d := of_u64 ⟨by omega, by omega⟩
  have hv := nat_val x
  have hdS : (d : Int) * S = ((S * d : Nat) : Int) := by rw [Nat.mul_comm, Int.natCast_mul]
  have hle : S * d ≤ 281474976710656 * 65535 := Nat.mul_le_mul hl (by omega)
  have h3 : (I.shl (I.of .u64 d) (I.of .u64 (16 * r : Nat))).val = ((S * d : Nat) : Int) := by
    rw [shl_u64 _ _ (by omega) (by rw [h1, h2, Int.toNat_natCast, ← hS, hdS]; omega), h1, h2, Int.toNat_natCast, ← hS, hdS]
  have h4 := add_u64 (a := x) (b := I.shl (I.of .u64 d) (I.of .u64 (16 * r : Nat))) (by rw [h3]; omega)
  rw [h3] at h4
  have h5 := nat_val (I.add x (I.shl (I.of .u64 d) (I.of .u64 (16 * r : Nat))))
  omega

theorem toU_step (u : U) (d : Nat) (j : Nat) (hj : j < 16) (hu : u.val < 65536 ^ j) (hd : d < 65536) :
    U.val (Arr.upd 4 u (j / 4) (I.add (Arr.sel (I.of .u64 0) 4 u (j / 4)) (I.shl (I.of .u64 d) (I.of .u64 (16 * (j % 4) : Nat))))) = u.val + 65536 ^ j * d := by
  obtain ⟨u0, u1, u2, u3, ⟨⟩⟩ := u
  have n0 := nat_lt u0
  have n1 := nat_lt u1
  have n2 := nat_lt u2
  have n3 := nat_lt u3
  unfold U.val at hu
  simp only at hu
  have hc : j = 0 ∨ j = 1 ∨ j = 2 ∨ j = 3 ∨ j = 4 ∨ j = 5 ∨ j = 6 ∨ j = 7 ∨ j = 8 ∨ j = 9 ∨ j = 10 ∨ j = 11 ∨ j = 12 ∨ j = 13 ∨ j = 14 ∨ j = 15 := by omega
  rcases hc with rfl | rfl | rfl | rfl | rfl | rfl | rfl | rfl | rfl | rfl | rfl | rfl | rfl | rfl | rfl | rfl
  · have p : 65536 ^ 0 = 1 := by decide
    rw [p] at hu ⊢
    have k := add_shl u0 d 0 1 hd (by decide) (by decide) (by omega) (by decide)
    show U.val ((I.add u0 (I.shl (I.of .u64 d) (I.of .u64 (16 * 0 : Nat)))), u1, u2, u3, ()) = _
    unfold U.val
    simp only
    omega
  · have p : 65536 ^ 1 = 65536 := by decide
    rw [p] at hu ⊢
    have k := add_shl u0 d 1 65536 hd (by decide) (by decide) (by omega) (by decide)
    show U.val ((I.add u0 (I.shl (I.of .u64 d) (I.of .u64 (16 * 1 : Nat)))), u1, u2, u3, ()) = _
    unfold U.val
    simp only
    omega
  · have p : 65536 ^ 2 = 4294967296 := by decide
    rw [p] at hu ⊢
    have k := add_shl u0 d 2 4294967296 hd (by decide) (by decide) (by omega) (by decide)
    show U.val ((I.add u0 (I.shl (I.of .u64 d) (I.of .u64 (16 * 2 : Nat)))), u1, u2, u3, ()) = _
    unfold U.val
    simp only
    omega
  · have p : 65536 ^ 3 = 281474976710656 := by decide
    rw [p] at hu ⊢
    have k := add_shl u0 d 3 281474976710656 hd (by decide) (by decide) (by omega) (by decide)
    show U.val ((I.add u0 (I.shl (I.of .u64 d) (I.of .u64 (16 * 3 : Nat)))), u1, u2, u3, ()) = _
    unfold U.val
    simp only
    omega
  · have p : 65536 ^ 4 = 18446744073709551616 := by decide
    rw [p] at hu ⊢
    have k := add_shl u1 d 0 1 hd (by decide) (by decide) (by omega) (by decide)
    show U.val (u0, (I.add u1 (I.shl (I.of .u64 d) (I.of .u64 (16 * 0 : Nat)))), u2, u3, ()) = _
    unfold U.val
    simp only
    omega
  · have p : 65536 ^ 5 = 1208925819614629174706176 := by decide
    rw [p] at hu ⊢
    have k := add_shl u1 d 1 65536 hd (by decide) (by decide) (by omega) (by decide)
    show U.val (u0, (I.add u1 (I.shl (I.of .u64 d) (I.of .u64 (16 * 1 : Nat)))), u2, u3, ()) = _
    unfold U.val
    simp only
    omega
  · have p : 65536 ^ 6 = 79228162514264337593543950336 := by decide
    rw [p] at hu ⊢
    have k := add_shl u1 d 2 4294967296 hd (by decide) (by decide) (by omega) (by decide)
    show U.val (u0, (I.add u1 (I.shl (I.of .u64 d) (I.of .u64 (16 * 2 : Nat)))), u2, u3, ()) = _
    unfold U.val
    simp only
    omega
  · have p : 65536 ^ 7 = 5192296858534827628530496329220096 := by decide
    rw [p] at hu ⊢
    have k := add_shl u1 d 3 281474976710656 hd (by decide) (by decide) (by omega) (by decide)
    show U.val (u0, (I.add u1 (I.shl (I.of .u64 d) (I.of .u64 (16 * 3 : Nat)))), u2, u3, ()) = _
    unfold U.val
    simp only
    omega
  · have p : 65536 ^ 8 = 340282366920938463463374607431768211456 := by decide
    rw [p] at hu ⊢
    have k := add_shl u2 d 0 1 hd (by decide) (by decide) (by omega) (by decide)
    show U.val (u0, u1, (I.add u2 (I.shl (I.of .u64 d) (I.of .u64 (16 * 0 : Nat)))), u3, ()) = _
    unfold U.val
    simp only
    omega
  · have p : 65536 ^ 9 = 22300745198530623141535718272648361505980416 := by decide
    rw [p] at hu ⊢
    have k := add_shl u2 d 1 65536 hd (by decide) (by decide) (by omega) (by decide)
    show U.val (u0, u1, (I.add u2 (I.shl (I.of .u64 d) (I.of .u64 (16 * 1 : Nat)))), u3, ()) = _
    unfold U.val
    simp only
    omega
  · have p : 65536 ^ 10 = 1461501637330902918203684832716283019655932542976 := by decide
    rw [p] at hu ⊢
    have k := add_shl u2 d 2 4294967296 hd (by decide) (by decide) (by omega) (by decide)
    show U.val (u0, u1, (I.add u2 (I.shl (I.of .u64 d) (I.of .u64 (16 * 2 : Nat)))), u3, ()) = _
    unfold U.val
    simp only
    omega
  · have p : 65536 ^ 11 = 95780971304118053647396689196894323976171195136475136 := by decide
    rw [p] at hu ⊢
    have k := add_shl u2 d 3 281474976710656 hd (by decide) (by decide) (by omega) (by decide)
    show U.val (u0, u1, (I.add u2 (I.shl (I.of .u64 d) (I.of .u64 (16 * 3 : Nat)))), u3, ()) = _
    unfold U.val
    simp only
    omega
  · have p : 65536 ^ 12 = 6277101735386680763835789423207666416102355444464034512896 := by decide
    rw [p] at hu ⊢
    have k := add_shl u3 d 0 1 hd (by decide) (by decide) (by omega) (by decide)
    show U.val (u0, u1, u2, (I.add u3 (I.shl (I.of .u64 d) (I.of .u64 (16 * 0 : Nat)))), ()) = _
    unfold U.val
    simp only
    omega
  · have p : 65536 ^ 13 = 411376139330301510538742295639337626245683966408394965837152256 := by decide
    rw [p] at hu ⊢
    have k := add_shl u3 d 1 65536 hd (by decide) (by decide) (by omega) (by decide)
    show U.val (u0, u1, u2, (I.add u3 (I.shl (I.of .u64 d) (I.of .u64 (16 * 1 : Nat)))), ()) = _
    unfold U.val
    simp only
    omega
  · have p : 65536 ^ 14 = 26959946667150639794667015087019630673637144422540572481103610249216 := by decide
    rw [p] at hu ⊢
    have k := add_shl u3 d 2 4294967296 hd (by decide) (by decide) (by omega) (by decide)
    show U.val (u0, u1, u2, (I.add u3 (I.shl (I.of .u64 d) (I.of .u64 (16 * 2 : Nat)))), ()) = _
    unfold U.val
    simp only
    omega
  · have p : 65536 ^ 15 = 1766847064778384329583297500742918515827483896875618958121606201292619776 := by decide
    rw [p] at hu ⊢
    have k := add_shl u3 d 3 281474976710656 hd (by decide) (by decide) (by omega) (by decide)
    show U.val (u0, u1, u2, (I.add u3 (I.shl (I.of .u64 d) (I.of .u64 (16 * 3 : Nat)))), ()) = _
    unfold U.val
    simp only
    omega

theorem bv_take_succ {l : List Dg} {i : Nat} (h : i < l.length) : bv (l.take (i + 1)) = bv (l.take i) + 65536 ^ i * (l[i]).nat := by
  rw [← List.take_append_getElem h, bv_app]
  have e : (l.take i).length = i := by simp; omega
  simp [bv, e]

theorem ToUint256_ok {l : List Dg} {n : Nat} (hl : IsB l n) (hn : n < U.top) : pontageref1_ToUint256 ((l, ()), ()) = some ((U.of n, ()), ()) := by
  have ht : U.top = 65536 ^ 16 := by decide
  have hlen : l.length ≤ 16 := hl.len.2 (by rw [← ht]; exact hn)
  have c16 : (I.of .i64 16).val = 16 := rfl
  have c4 : (I.of .i64 4).val = 4 := rfl
  have c1 : (I.of .i64 1).val = 1 := rfl
  have hol : (I.ofNat .i64 (lenL l)).val = l.length := ofNat_i64 (by show l.length < _; omega)
  have key : Wp (fun o => o = some ((U.of n, ()), ())) (pontageref1_ToUint256 ((l, ()), ())) := by
    unfold pontageref1_ToUint256
    refine Wp.iter (fun x => x.1.1 = l ∧ 0 ≤ x.1.2.1.val ∧ x.1.2.1.val ≤ (l.length : Int) ∧ U.val x.2.2.1 = bv (l.take x.1.2.1.val.toNat)) (fun x => ((l.length : Int) - x.1.2.1.val).toNat) ?_ ?_ ?_
    · rintro ⟨⟨l', i, ⟨⟩⟩, r0, u, ⟨⟩⟩ ⟨e1, hi0, hi1, hu⟩
      simp only at e1 hi0 hi1 hu
      subst e1
      have fin : i.val.toNat = l'.length → u = U.of n := by
        intro e
        rw [e, List.take_length, hl.val] at hu
        rw [← hu]
        exact (U.of_val u).symm
      refine Wp.brn (fun h => ?_) (fun h => ?_)
      · have h := iff_ltb.1 h
        simp only [hol] at h
        have hlt : i.val.toNat < l'.length := by omega
        refine Wp.brnT (iff_ltb.2 (by show i.val < (I.of .i64 16).val; omega)) ?_
        have hq : (I.quo i (I.of .i64 4)).val = i.val / 4 := quo_i64 hi0 (by decide)
        have hr : (I.rem i (I.of .i64 4)).val = i.val % 4 := rem_i64 hi0 (by decide)
        have hs : (I.add i (I.of .i64 1)).val = i.val + 1 := by rw [add_i64 (by omega)]; omega
        have hm : (I.mul (I.of .i64 16) (I.rem i (I.of .i64 4))).val = 16 * (i.val % 4) := by rw [mul_i64 (by rw [c16, hr]; omega), hr, c16]
        have hin : inB (I.quo i (I.of .i64 4)) 4 = true := iff_inB.2 ⟨by omega, by omega⟩
        refine Wp.brnT hin ?_
        refine Wp.brnT (iff_inB.2 ⟨hi0, by show i.val < ((l'.length : Nat) : Int); omega⟩) ?_
        refine Wp.brnT (nn_u64 _) ?_
        refine Wp.brnT hin ?_
        have hdig : DigOk l'[i.val.toNat] := hl.dig _ (List.getElem_mem hlt)
        have hrd : rdL (I.of .i64 0) l' (I.nat i) = l'[i.val.toNat] := rdL_eq _ _ _ hlt
        have e1 : I.nat (I.quo i (I.of .i64 4)) = i.val.toNat / 4 := by unfold I.nat; omega
        have e2 : I.conv .u64 (I.mul (I.of .i64 16) (I.rem i (I.of .i64 4))) = I.of .u64 (16 * (i.val.toNat % 4) : Nat) := by
          show I.of .u64 _ = _
          rw [hm]
          congr 1
          omega
        have e3 : I.conv .u64 (rdL (I.of .i64 0) l' (I.nat i)) = I.of .u64 ((l'[i.val.toNat]).nat : Int) := by
          show I.of .u64 _ = _
          rw [hrd, hdig.nat.1]
        have hub : U.val u < 65536 ^ i.val.toNat := by
          rw [hu]
          have := bv_lt (digs_take hl.dig i.val.toNat)
          rw [List.length_take] at this
          rwa [Nat.min_eq_left (by omega)] at this
        have st := toU_step u (l'[i.val.toNat]).nat i.val.toNat (by omega) hub hdig.nat.2
        refine Wp.again ⟨rfl, ?_, ?_, ?_⟩ ?_
        · show 0 ≤ (I.add i (I.of .i64 1)).val; omega
        · show (I.add i (I.of .i64 1)).val ≤ _; omega
        · show U.val (Arr.upd 4 u (I.nat (I.quo i (I.of .i64 4))) (I.add (Arr.sel (I.of .u64 0) 4 u (I.nat (I.quo i (I.of .i64 4)))) (I.shl (I.conv .u64 (rdL (I.of .i64 0) l' (I.nat i))) (I.conv .u64 (I.mul (I.of .i64 16) (I.rem i (I.of .i64 4))))))) = bv (l'.take (I.add i (I.of .i64 1)).val.toNat)
          have e4 : (I.add i (I.of .i64 1)).val.toNat = i.val.toNat + 1 := by omega
          rw [e1, e2, e3, e4, st, bv_take_succ hlt, ← hu]
        · show ((l'.length : Int) - (I.add i (I.of .i64 1)).val).toNat < _
          simp only; omega
      · have h := niff_ltb.1 h
        simp only [hol] at h
        have := fin (by omega)
        subst this
        exact Wp.done rfl
    · refine ⟨rfl, by show 0 ≤ (I.of .i64 0).val; decide, by show (I.of .i64 0).val ≤ (l.length : Int); have : (I.of .i64 0).val = 0 := rfl; omega, ?_⟩
      show U.val _ = bv (l.take (I.of .i64 0).val.toNat)
      rfl
    · exact K0_ge _ (by show ((l.length : Int) - (I.of .i64 0).val).toNat < _; have : (I.of .i64 0).val = 0 := rfl; omega)
  exact key.out

def errS (n : Nat) : U × I .i64 := if n < U.top then (U.of n, I.of .i64 0) else (U.of 0, I.of .i64 4)

theorem Fits_ok {l : List Dg} {n : Nat} (hl : IsB l n) (hlen : l.length < 9223372036854775808) : pontageref1_Fits ((l, ()), ()) = some ((decide (n < U.top), ()), ()) := by
  have ht : U.top = 65536 ^ 16 := by decide
  have h := hl.len (k := 16)
  have hol : (I.ofNat .i64 (lenL l)).val = l.length := ofNat_i64 hlen
  have c16 : (I.of .i64 16).val = 16 := rfl
  have e : I.leb (I.ofNat .i64 (lenL l)) (I.of .i64 16) = decide (n < U.top) := by
    unfold I.leb
    rw [hol, c16, ht]
    by_cases hc : l.length ≤ 16
    · have := h.1 hc
      simp [this]; omega
    · have : ¬ n < 65536 ^ 16 := fun hh => hc (h.2 hh)
      simp [this]; omega
  refine Wp.out (T := fun o => o = _) ?_
  unfold pontageref1_Fits
  show some ((I.leb (I.ofNat .i64 (lenL l)) (I.of .i64 16), ()), ()) = _
  rw [e]

theorem Checked_ok {l : List Dg} {n : Nat} (hl : IsB l n) (hlen : l.length < 9223372036854775808) : pontageref1_Checked ((l, ()), ()) = some (((errS n).1, (errS n).2, ()), ()) := by
  refine Wp.out (T := fun o => o = _) ?_
  unfold pontageref1_Checked errS
  refine Wp.optF (Fits_ok hl hlen) ?_
  by_cases h : n < U.top
  · refine Wp.brnF (by show (!decide (n < U.top)) = false; simp [h]) ?_
    refine Wp.optF (ToUint256_ok hl h) ?_
    show _ = _
    rw [if_pos h]
    rfl
  · refine Wp.brnT (by show (!decide (n < U.top)) = true; simp [h]) ?_
    show _ = _
    rw [if_neg h]
    rfl

theorem Checked_ok' {l : List Dg} {n : Nat} (hl : IsB l n) (hlen : l.length ≤ 1000000) : pontageref1_Checked ((l, ()), ()) = some (((errS n).1, (errS n).2, ()), ()) := Checked_ok hl (by omega)

def u64U (x : I .u64) : U := (x, I.of .u64 0, I.of .u64 0, I.of .u64 0, ())

theorem u64U_val (x : I .u64) : (u64U x).val = x.nat := by
  unfold u64U U.val
  have : (I.of .u64 0).nat = 0 := rfl
  simp only [this]
  omega

theorem FromUint64_ok (x : I .u64) : ∃ r, pontageref1_FromUint64 ((x, ()), ()) = some ((r, ()), ()) ∧ IsB r x.nat := by
  obtain ⟨r, hr, hB⟩ := FromUint256_ok (u64U x)
  rw [u64U_val] at hB
  refine ⟨r, ?_, hB⟩
  refine Wp.out (T := fun o => o = _) ?_
  unfold pontageref1_FromUint64
  exact Wp.optF hr rfl
end Sym

/- Natural numbers by digits of 65536: sums, differences, comparison. -/
namespace Sym
open Go

theorem rdL_out {X : Type} (d : X) : ∀ (l : List X) (i : Nat), l.length ≤ i → rdL d l i = d
  | [], _, _ => rfl
  | x :: l, 0, h => by simp at h
  | x :: l, i + 1, h => rdL_out d l i (by simpa using h)

abbrev rd0 (l : List Dg) (i : Nat) : Dg := rdL (I.of .i64 0) l i

theorem digOk0 : DigOk (I.of .i64 0) := by unfold DigOk; decide

theorem rd0_ok {l : List Dg} (h : Digs l) (i : Nat) : DigOk (rd0 l i) := by
  rcases Nat.lt_or_ge i l.length with hi | hi
  · rw [rd0, rdL_eq _ _ _ hi]; exact h _ (List.getElem_mem hi)
  · rw [rd0, rdL_out _ _ _ hi]; exact digOk0

theorem rd0_zero {l : List Dg} {i : Nat} (h : l.length ≤ i) : (rd0 l i).nat = 0 := by rw [rd0, rdL_out _ _ _ h]; rfl

theorem bv_drop : ∀ (l : List Dg) (i : Nat), bv (l.drop i) = (rd0 l i).nat + 65536 * bv (l.drop (i + 1))
  | [], i => by simp [bv, rd0, rdL]; rfl
  | x :: l, 0 => by simp [bv, rd0, rdL]
  | x :: l, i + 1 => by simpa [rd0, rdL] using bv_drop l i

theorem bv_take1 (l : List Dg) (i : Nat) : bv (l.take (i + 1)) = bv (l.take i) + 65536 ^ i * (rd0 l i).nat := by
  rcases Nat.lt_or_ge i l.length with hi | hi
  · rw [bv_take_succ hi, rd0, rdL_eq _ _ _ hi]
  · rw [rd0_zero hi, List.take_of_length_le (by omega), List.take_of_length_le hi]; simp

theorem lead_last : ∀ {l : List Dg}, Lead l → ∀ (i : Nat), i + 1 = l.length → (rd0 l i).val ≠ 0
  | [], _, i, h => by simp at h
  | [d], h, i, hi => by
    have : i = 0 := by simpa using hi
    subst this
    exact h
  | d :: e :: l, h, 0, hi => by simp at hi
  | d :: e :: l, h, i + 1, hi => lead_last (l := e :: l) h i (by simpa using hi)

structure AddInv (a b : List Dg) (over i : I .i64) (out : List Dg) : Prop where
  o0 : 0 ≤ over.val
  o1 : over.val ≤ 1
  i0 : 0 ≤ i.val
  i1 : i.val ≤ max a.length b.length ∨ (over.val = 0 ∧ i.val = max a.length b.length + 1)
  len : (out.length : Int) = i.val
  dig : Digs out
  sum : bv out + 65536 ^ i.val.toNat * (over.nat + bv (a.drop i.val.toNat) + bv (b.drop i.val.toNat)) = bv a + bv b
  lead : over.val = 0 → (a.length : Int) ≤ i.val → (b.length : Int) ≤ i.val → Lead out

theorem add_step {a b : List Dg} {over i s : I .i64} {out : List Dg} (ha : Digs a) (hb : Digs b) (la : Lead a) (lb : Lead b) (hal : a.length ≤ 1000000) (hbl : b.length ≤ 1000000) (h : AddInv a b over i out)
    (hc : i.val < a.length ∨ i.val < b.length ∨ 0 < over.val) (hs : s.val = over.val + (rd0 a i.val.toNat).val + (rd0 b i.val.toNat).val) :
    AddInv a b (I.shr s (I.of .u64 16)) (I.add i (I.of .i64 1)) (appL out [I.and s (I.of .i64 65535)]) := by
  have c1 : (I.of .i64 1).val = 1 := rfl
  have da := rd0_ok ha i.val.toNat
  have db := rd0_ok hb i.val.toNat
  have da2 := da.nat
  have db2 := db.nat
  unfold DigOk at da db
  have ho0 := h.o0
  have ho1 := h.o1
  have hi0 := h.i0
  have hi1 := h.i1
  have hsh := shr_i64_16 s (by omega)
  have han := and_i64 s (by omega)
  have hi : (I.add i (I.of .i64 1)).val = i.val + 1 := by rw [add_i64 (by omega)]; omega
  have hin : (I.add i (I.of .i64 1)).val.toNat = i.val.toNat + 1 := by omega
  have hout : out.length = i.val.toNat := by have := h.len; omega
  refine ⟨by omega, by omega, by omega, ?_, ?_, ?_, ?_, ?_⟩
  · rcases hi1 with hi1 | hi1
    · rcases Int.lt_or_le i.val (max a.length b.length) with hlt | hge
      · left; omega
      · right
        have z1 := rd0_zero (l := a) (i := i.val.toNat) (by omega)
        have z2 := rd0_zero (l := b) (i := i.val.toNat) (by omega)
        omega
    · exfalso; omega
  · show ((appL out [_]).length : Int) = _
    simp only [appL, List.length_append, List.length_singleton]
    have := h.len
    omega
  · exact digs_app.2 ⟨h.dig, digs_cons.2 ⟨by unfold DigOk; omega, fun _ h => by simp at h⟩⟩
  · have hsum := h.sum
    rw [bv_drop a, bv_drop b] at hsum
    rw [hin]
    have hn1 : (I.and s (I.of .i64 65535)).nat + 65536 * (I.shr s (I.of .u64 16)).nat = over.nat + (rd0 a i.val.toNat).nat + (rd0 b i.val.toNat).nat := by
      unfold I.nat at *
      omega
    have e : over.nat + ((rd0 a i.val.toNat).nat + 65536 * bv (a.drop (i.val.toNat + 1))) + ((rd0 b i.val.toNat).nat + 65536 * bv (b.drop (i.val.toNat + 1))) =
        (I.and s (I.of .i64 65535)).nat + 65536 * ((I.shr s (I.of .u64 16)).nat + bv (a.drop (i.val.toNat + 1)) + bv (b.drop (i.val.toNat + 1))) := by omega
    rw [e, Nat.mul_add, ← Nat.mul_assoc] at hsum
    rw [← hsum, appL, bv_app, hout, Nat.pow_succ]
    simp only [bv, Nat.mul_zero, Nat.add_zero]
    omega
  · intro hz h1 h2
    refine lead_snoc _ _ ?_
    intro hz2
    have hs0 : s.val = 0 := by omega
    rcases hc with hc | hc | hc
    · have := lead_last la i.val.toNat (by omega)
      omega
    · have := lead_last lb i.val.toNat (by omega)
      omega
    · omega

theorem Add_ok {a b : List Dg} {m n : Nat} (ha : IsB a m) (hb : IsB b n) (hal : a.length ≤ 1000000) (hbl : b.length ≤ 1000000) : ∃ r, pontageref1_Add ((a, b, ()), ()) = some ((r, ()), ()) ∧ IsB r (m + n) := by
  have hol : (I.ofNat .i64 (lenL a)).val = a.length := ofNat_i64 (by show a.length < _; omega)
  have hol2 : (I.ofNat .i64 (lenL b)).val = b.length := ofNat_i64 (by show b.length < _; omega)
  have c0 : (I.of .i64 0).val = 0 := rfl
  have key : Wp (fun o => ∃ r, o = some ((r, ()), ()) ∧ IsB r (m + n)) (pontageref1_Add ((a, b, ()), ())) := by
    unfold pontageref1_Add
    refine Wp.iter (fun x => x.1.1 = a ∧ x.1.2.1 = b ∧ AddInv a b x.1.2.2.1 x.1.2.2.2.1 x.2.1) (fun x => ((max a.length b.length : Int) + 2 - x.1.2.2.2.1.val).toNat) ?_ ?_ ?_
    · rintro ⟨⟨a', b', over, i, ⟨⟩⟩, out, ⟨⟩⟩ ⟨e1, e2, hI⟩
      simp only at e1 e2 hI
      subst e1 e2
      have hi0 := hI.i0
      have hi1 := hI.i1
      have ho0 := hI.o0
      have ho1 := hI.o1
      have again : ∀ (s : I .i64), (i.val < a'.length ∨ i.val < b'.length ∨ 0 < over.val) → s.val = over.val + (rd0 a' i.val.toNat).val + (rd0 b' i.val.toNat).val →
          AddInv a' b' (I.shr s (I.of .u64 16)) (I.add i (I.of .i64 1)) (appL out [I.and s (I.of .i64 65535)]) ∧ ((max a'.length b'.length : Int) + 2 - (I.add i (I.of .i64 1)).val).toNat < ((max a'.length b'.length : Int) + 2 - i.val).toNat := by
        intro s hc hs
        refine ⟨add_step ha.dig hb.dig ha.lead hb.lead hal hbl hI hc hs, ?_⟩
        have c1 : (I.of .i64 1).val = 1 := rfl
        have hi : (I.add i (I.of .i64 1)).val = i.val + 1 := by rw [add_i64 (by omega)]; omega
        omega
      have fits : fitsLen (lenL (appL out [I.of .i64 0])) = true := iff_fits.2 (by show (appL out [_]).length ≤ _; rw [appL, List.length_append, List.length_singleton]; have := hI.len; omega)
      have fits' : ∀ d : Dg, fitsLen (lenL (appL out [d])) = true := fun d => iff_fits.2 (by show (appL out [_]).length ≤ _; rw [appL, List.length_append, List.length_singleton]; have := hI.len; omega)
      refine Wp.jn (fun x => x.1.1 = a' ∧ x.1.2.1 = b' ∧ x.1.2.2.1 = over ∧ x.1.2.2.2.1 = i ∧ x.2.1 = out ∧ (i.val < a'.length ∨ i.val < b'.length ∨ 0 < over.val)) ?_ ?_
      · rintro ⟨⟨a1, b1, over1, i1, ⟨⟩⟩, out1, ⟨⟩⟩ ⟨e1, e2, e3, e4, e5, hc⟩
        simp only at e1 e2 e3 e4 e5
        subst e1 e2 e3 e4 e5
        have ra := rd0_ok ha.dig i1.val.toNat
        have rb := rd0_ok hb.dig i1.val.toNat
        unfold DigOk at ra rb
        refine Wp.jn (fun x => x.1.1 = a1 ∧ x.1.2.1 = b1 ∧ x.1.2.2.1.val = over1.val + (rd0 a1 i1.val.toNat).val ∧ x.1.2.2.2.1 = i1 ∧ x.2.1 = out1) ?_ ?_
        · rintro ⟨⟨a2, b2, over2, i2, ⟨⟩⟩, out2, ⟨⟩⟩ ⟨e1, e2, e3, e4, e5⟩
          simp only at e1 e2 e3 e4 e5
          subst e1 e2 e4 e5
          refine Wp.brn (fun h => ?_) (fun h => ?_)
          · have h := iff_ltb.1 h
            simp only [hol2] at h
            refine Wp.brnT (iff_inB.2 ⟨hi0, by show i2.val < ((b2.length : Nat) : Int); omega⟩) ?_
            have hs : (I.add over2 (rd0 b2 i2.val.toNat)).val = over1.val + (rd0 a2 i2.val.toNat).val + (rd0 b2 i2.val.toNat).val := by rw [add_i64 (by omega)]; omega
            have := again _ hc hs
            exact Wp.brnT (fits' _) (Wp.again ⟨rfl, rfl, this.1⟩ this.2)
          · have h := niff_ltb.1 h
            simp only [hol2] at h
            have hz := rd0_zero (l := b2) (i := i2.val.toNat) (by omega)
            have hz2 : (rd0 b2 i2.val.toNat).val = 0 := by unfold I.nat at hz; omega
            have := again over2 hc (by omega)
            exact Wp.brnT (fits' _) (Wp.again ⟨rfl, rfl, this.1⟩ this.2)
        · intro j2 hj2
          refine Wp.brn (fun h => ?_) (fun h => ?_)
          · have h := iff_ltb.1 h
            simp only [hol] at h
            refine Wp.brnT (iff_inB.2 ⟨hi0, by show i1.val < ((a1.length : Nat) : Int); omega⟩) ?_
            exact hj2 _ ⟨rfl, rfl, add_i64 (by show _ ≤ over1.val + (rd0 a1 i1.val.toNat).val ∧ over1.val + (rd0 a1 i1.val.toNat).val < _; omega), rfl, rfl⟩
          · have h := niff_ltb.1 h
            simp only [hol] at h
            have hz := rd0_zero (l := a1) (i := i1.val.toNat) (by omega)
            have hz2 : (rd0 a1 i1.val.toNat).val = 0 := by unfold I.nat at hz; omega
            exact hj2 _ ⟨rfl, rfl, by show over1.val = _; omega, rfl, rfl⟩
      · intro j1 hj1
        refine Wp.brn (fun h => ?_) (fun h => ?_)
        · have h := iff_ltb.1 h
          simp only [hol] at h
          exact hj1 _ ⟨rfl, rfl, rfl, rfl, rfl, .inl h⟩
        · have h := niff_ltb.1 h
          simp only [hol] at h
          refine Wp.brn (fun h2 => ?_) (fun h2 => ?_)
          · have h2 := iff_ltb.1 h2
            simp only [hol2] at h2
            exact hj1 _ ⟨rfl, rfl, rfl, rfl, rfl, .inr (.inl h2)⟩
          · have h2 := niff_ltb.1 h2
            simp only [hol2] at h2
            refine Wp.brn (fun h3 => ?_) (fun h3 => ?_)
            · have h3 := iff_ltb.1 h3
              simp only [c0] at h3
              exact hj1 _ ⟨rfl, rfl, rfl, rfl, rfl, .inr (.inr h3)⟩
            · have h3 := niff_ltb.1 h3
              simp only [c0] at h3
              refine Wp.done ⟨out, rfl, hI.dig, hI.lead (by omega) (by omega) (by omega), ?_⟩
              have hsum := hI.sum
              have hz : over.nat = 0 := by unfold I.nat; omega
              rw [List.drop_of_length_le (l := a') (by omega), List.drop_of_length_le (l := b') (by omega), hz] at hsum
              simp only [bv, Nat.mul_zero, Nat.add_zero] at hsum
              rw [hsum, ha.val, hb.val]
    · refine ⟨rfl, rfl, ?_⟩
      show AddInv a b (I.of .i64 0) (I.of .i64 0) []
      refine ⟨by decide, by decide, by decide, ?_, rfl, fun _ h => by simp at h, ?_, fun _ _ _ => trivial⟩
      · left; show (I.of .i64 0).val ≤ _; omega
      · show bv [] + 65536 ^ (I.of .i64 0).val.toNat * ((I.of .i64 0).nat + bv (a.drop (I.of .i64 0).val.toNat) + bv (b.drop (I.of .i64 0).val.toNat)) = _
        have e : (I.of .i64 0).val.toNat = 0 := rfl
        have e2 : (I.of .i64 0).nat = 0 := rfl
        rw [e, e2]
        simp [bv]
    · exact K0_ge _ (by show ((max a.length b.length : Int) + 2 - (I.of .i64 0).val).toNat < _; omega)
  exact key.out
end Sym

/- Natural numbers by digits of 65536: differences, comparison. -/
namespace Sym
open Go

theorem repL_digs : ∀ (n : Nat), Digs (repL n (I.of .i64 0))
  | 0 => fun _ h => by simp [repL] at h
  | n + 1 => digs_cons.2 ⟨digOk0, repL_digs n⟩

theorem repL_length {X : Type} : ∀ (n : Nat) (x : X), (repL n x).length = n
  | 0, _ => rfl
  | n + 1, x => by simp [repL, repL_length n x]

theorem take_set_succ {X : Type} (l : List X) (i : Nat) (v : X) (h : i < l.length) : (l.set i v).take (i + 1) = l.take i ++ [v] := by
  have h2 : i < (l.set i v).length := by simpa using h
  rw [← List.take_append_getElem h2]
  simp [List.take_set_of_le]

theorem digs_set {l : List Dg} (h : Digs l) (i : Nat) {d : Dg} (hd : DigOk d) : Digs (l.set i d) := by
  intro e he
  rcases List.mem_or_eq_of_mem_set he with h1 | h1
  · exact h e h1
  · subst h1; exact hd

structure SubInv (a b : List Dg) (under i : I .i64) (out : List Dg) : Prop where
  u0 : 0 ≤ under.val
  u1 : under.val ≤ 1
  i0 : 0 ≤ i.val
  i1 : i.val ≤ a.length
  len : out.length = a.length
  dig : Digs out
  sum : bv (out.take i.val.toNat) + bv (b.take i.val.toNat) = bv (a.take i.val.toNat) + 65536 ^ i.val.toNat * under.nat

theorem sub_step {a b : List Dg} {under i d un : I .i64} {out : List Dg} (ha : Digs a) (hb : Digs b) (hal : a.length ≤ 1000000) (h : SubInv a b under i out) (hc : i.val < a.length)
    (hd : DigOk d) (hu : un.val = 0 ∨ un.val = 1) (hs : d.val = (rd0 a i.val.toNat).val - under.val - (rd0 b i.val.toNat).val + 65536 * un.val) :
    SubInv a b un (I.add i (I.of .i64 1)) (setAt out (I.nat i) d) := by
  have c1 : (I.of .i64 1).val = 1 := rfl
  have da2 := (rd0_ok ha i.val.toNat).nat
  have db2 := (rd0_ok hb i.val.toNat).nat
  have hd2 := hd.nat
  have hu0 := h.u0
  have hu1 := h.u1
  have hi0 := h.i0
  have hi : (I.add i (I.of .i64 1)).val = i.val + 1 := by rw [add_i64 (by omega)]; omega
  have hin : (I.add i (I.of .i64 1)).val.toNat = i.val.toNat + 1 := by omega
  have hlen := h.len
  have hni : I.nat i = i.val.toNat := rfl
  rw [setAt_eq, hni]
  refine ⟨by omega, by omega, by omega, by omega, by simpa using hlen, digs_set h.dig _ hd, ?_⟩
  rw [hin, take_set_succ _ _ _ (by omega), bv_app, bv_take1 a, bv_take1 b]
  have el : (out.take i.val.toNat).length = i.val.toNat := by simp; omega
  rw [el, Nat.pow_succ]
  simp only [bv, Nat.mul_zero, Nat.add_zero]
  have hsum := h.sum
  have e : d.nat + (rd0 b i.val.toNat).nat + under.nat = (rd0 a i.val.toNat).nat + 65536 * un.nat := by
    unfold I.nat at *
    omega
  have e2 := congrArg (fun z => 65536 ^ i.val.toNat * z) e
  simp only [Nat.mul_add] at e2
  rw [← Nat.mul_assoc] at e2
  omega

theorem Sub_ok {a b : List Dg} {m n : Nat} (ha : IsB a m) (hb : IsB b n) (hmn : n ≤ m) (hal : a.length ≤ 1000000) : ∃ r, pontageref1_Sub ((a, b, ()), ()) = some ((r, ()), ()) ∧ IsB r (m - n) := by
  have hbl : b.length ≤ a.length := hb.len.2 (Nat.lt_of_le_of_lt hmn (ha.len.1 (Nat.le_refl _)))
  have hol : (I.ofNat .i64 (lenL a)).val = a.length := ofNat_i64 (by show a.length < _; omega)
  have hol2 : (I.ofNat .i64 (lenL b)).val = b.length := ofNat_i64 (by show b.length < _; omega)
  have c0 : (I.of .i64 0).val = 0 := rfl
  have hn : I.nat (I.ofNat .i64 (lenL a)) = a.length := by unfold I.nat; omega
  have key : Wp (fun o => ∃ r, o = some ((r, ()), ()) ∧ IsB r (m - n)) (pontageref1_Sub ((a, b, ()), ())) := by
    unfold pontageref1_Sub
    refine Wp.brnT ?_ ?_
    · show (decide (0 ≤ (I.ofNat .i64 (lenL a)).val) && decide ((I.ofNat .i64 (lenL a)).val ≤ ((I.nat (I.ofNat .i64 (lenL a)) : Nat) : Int))) = true
      rw [hn, hol]; simp
    refine Wp.brnT ?_ ?_
    · show (decide (0 ≤ (I.ofNat .i64 (lenL a)).val) && decide ((I.ofNat .i64 (lenL a)).val ≤ ((1073741824 : Nat) : Int))) = true
      rw [hol]; simp; omega
    refine Wp.iter (fun x => x.1.1 = a ∧ x.1.2.1 = b ∧ SubInv a b x.1.2.2.1 x.1.2.2.2.1 x.2.1) (fun x => ((a.length : Int) - x.1.2.2.2.1.val).toNat) ?_ ?_ ?_
    · rintro ⟨⟨a', b', under, i, ⟨⟩⟩, out, ⟨⟩⟩ ⟨e1, e2, hI⟩
      simp only at e1 e2 hI
      subst e1 e2
      have hi0 := hI.i0
      have hi1 := hI.i1
      have hu0 := hI.u0
      have hu1 := hI.u1
      refine Wp.brn (fun h => ?_) (fun h => ?_)
      · have hlt := iff_ltb.1 h
        simp only [hol] at hlt
        clear h
        have ra := rd0_ok ha.dig i.val.toNat
        have rb := rd0_ok hb.dig i.val.toNat
        have ra' := ra
        have rb' := rb
        unfold DigOk at ra rb
        have c1 : (I.of .i64 1).val = 1 := rfl
        have hi : (I.add i (I.of .i64 1)).val = i.val + 1 := by rw [add_i64 (by omega)]; omega
        have hm : ((a'.length : Int) - (I.add i (I.of .i64 1)).val).toNat < ((a'.length : Int) - i.val).toNat := by omega
        have hlen := hI.len
        refine Wp.brnT (iff_inB.2 ⟨hi0, by show i.val < ((a'.length : Nat) : Int); omega⟩) ?_
        refine Wp.jn (fun x => x.1.1 = a' ∧ x.1.2.1 = b' ∧ x.1.2.2.1 = i ∧ x.1.2.2.2.1.val = (rd0 a' i.val.toNat).val - under.val - (rd0 b' i.val.toNat).val ∧ x.2.1 = out) ?_ ?_
        · rintro ⟨⟨a1, b1, i1, x, ⟨⟩⟩, out1, ⟨⟩⟩ ⟨e1, e2, e3, e4, e5⟩
          simp only at e1 e2 e3 e4 e5
          subst e1 e2 e3 e5
          refine Wp.brn (fun h2 => ?_) (fun h2 => ?_)
          · have h2 := iff_ltb.1 h2
            simp only [c0] at h2
            refine Wp.brnT (iff_inB.2 ⟨hi0, by show i1.val < ((out1.length : Nat) : Int); omega⟩) ?_
            have c6 : (I.of .i64 65536).val = 65536 := rfl
            have hx : (I.add x (I.of .i64 65536)).val = x.val + 65536 := by rw [add_i64 (by omega)]; omega
            have st := sub_step (un := I.of .i64 1) (d := I.add x (I.of .i64 65536)) ha.dig hb.dig hal hI hlt (by unfold DigOk; omega) (.inr rfl) (by omega)
            exact Wp.again ⟨rfl, rfl, st⟩ hm
          · have h2 := niff_ltb.1 h2
            simp only [c0] at h2
            refine Wp.brnT (iff_inB.2 ⟨hi0, by show i1.val < ((out1.length : Nat) : Int); omega⟩) ?_
            have st := sub_step (un := I.of .i64 0) (d := x) ha.dig hb.dig hal hI hlt (by unfold DigOk; omega) (.inl rfl) (by omega)
            exact Wp.again ⟨rfl, rfl, st⟩ hm
        · intro j hj
          have hs1 : (I.sub (rd0 a' i.val.toNat) under).val = (rd0 a' i.val.toNat).val - under.val := sub_i64 (by omega)
          refine Wp.brn (fun h2 => ?_) (fun h2 => ?_)
          · have h2 := iff_ltb.1 h2
            simp only [hol2] at h2
            refine Wp.brnT (iff_inB.2 ⟨hi0, by show i.val < ((b'.length : Nat) : Int); omega⟩) ?_
            refine hj _ ⟨rfl, rfl, rfl, ?_, rfl⟩
            show (I.sub (I.sub (rd0 a' i.val.toNat) under) (rd0 b' i.val.toNat)).val = _
            rw [sub_i64 (by omega), hs1]
          · have h2 := niff_ltb.1 h2
            simp only [hol2] at h2
            have hz := rd0_zero (l := b') (i := i.val.toNat) (by omega)
            have hz2 : (rd0 b' i.val.toNat).val = 0 := by unfold I.nat at hz; omega
            refine hj _ ⟨rfl, rfl, rfl, ?_, rfl⟩
            show (I.sub (rd0 a' i.val.toNat) under).val = _
            omega
      · have h := niff_ltb.1 h
        simp only [hol] at h
        have hlen := hI.len
        have hsum := hI.sum
        have hi : i.val.toNat = a'.length := by omega
        rw [hi, List.take_of_length_le (by omega), List.take_of_length_le hbl, List.take_length, ha.val, hb.val] at hsum
        have hlt := bv_lt hI.dig
        rw [hlen] at hlt
        have hz : under.nat = 0 := by
          unfold I.nat
          rcases Int.lt_or_le under.val 1 with h1 | h1
          · omega
          · exfalso
            have : under.nat = 1 := by unfold I.nat; omega
            rw [this] at hsum
            omega
        rw [hz, Nat.mul_zero, Nat.add_zero] at hsum
        obtain ⟨r, hr, hB⟩ := norm_ok out hI.dig (by omega)
        exact Wp.done (Wp.optF hr ⟨r, rfl, hB.dig, hB.lead, by rw [hB.val]; omega⟩)
    · refine ⟨rfl, rfl, ?_⟩
      show SubInv a b (I.of .i64 0) (I.of .i64 0) (repL (I.nat (I.ofNat .i64 (lenL a))) (I.of .i64 0))
      rw [hn]
      have e : (I.of .i64 0).val.toNat = 0 := rfl
      refine ⟨by decide, by decide, by decide, by omega, repL_length _ _, repL_digs _, ?_⟩
      rw [e]
      rfl
    · exact K0_ge _ (by show ((a.length : Int) - (I.of .i64 0).val).toNat < _; omega)
  exact key.out

/-- -1, 0 or 1. -/
def cmpN (m n : Nat) : I .i64 := if m < n then I.of .i64 (-1) else if n < m then I.of .i64 1 else I.of .i64 0

theorem cmp_at {a b : List Dg} (ha : Digs a) (hb : Digs b) (i : Nat) (hd : bv (a.drop (i + 1)) = bv (b.drop (i + 1))) (hlt : (rd0 a i).nat < (rd0 b i).nat) (hia : i ≤ a.length) (hib : i ≤ b.length) : bv a < bv b := by
  have e1 : bv a = bv (a.take i) + 65536 ^ i * bv (a.drop i) := by
    have := bv_app (a.take i) (a.drop i)
    rw [List.take_append_drop] at this
    rw [this]; simp [Nat.min_eq_left hia]
  have e2 : bv b = bv (b.take i) + 65536 ^ i * bv (b.drop i) := by
    have := bv_app (b.take i) (b.drop i)
    rw [List.take_append_drop] at this
    rw [this]; simp [Nat.min_eq_left hib]
  have h1 := bv_lt (digs_take ha i)
  rw [List.length_take, Nat.min_eq_left hia] at h1
  have h2 : bv (a.drop i) + 1 ≤ bv (b.drop i) := by rw [bv_drop a, bv_drop b]; omega
  have h3 := Nat.mul_le_mul_left (65536 ^ i) h2
  rw [Nat.mul_add] at h3
  omega

theorem Cmp_ok {a b : List Dg} {m n : Nat} (ha : IsB a m) (hb : IsB b n) (hal : a.length ≤ 1000000) (hbl : b.length ≤ 1000000) : pontageref1_Cmp ((a, b, ()), ()) = some ((cmpN m n, ()), ()) := by
  have hol : (I.ofNat .i64 (lenL a)).val = a.length := ofNat_i64 (by show a.length < _; omega)
  have hol2 : (I.ofNat .i64 (lenL b)).val = b.length := ofNat_i64 (by show b.length < _; omega)
  have c0 : (I.of .i64 0).val = 0 := rfl
  have c1 : (I.of .i64 1).val = 1 := rfl
  have key : Wp (fun o => o = some ((cmpN m n, ()), ())) (pontageref1_Cmp ((a, b, ()), ())) := by
    unfold pontageref1_Cmp
    refine Wp.brn (fun h => ?_) (fun h => ?_)
    · have h := iff_neb.1 h
      simp only [hol, hol2] at h
      refine Wp.brn (fun h2 => ?_) (fun h2 => ?_)
      · have h2 := iff_ltb.1 h2
        simp only [hol, hol2] at h2
        have h3 : m < n := by
          rcases Nat.lt_or_ge m n with h3 | h3
          · exact h3
          · have := hb.len.2 (Nat.lt_of_le_of_lt h3 (ha.len.1 (Nat.le_refl _)))
            omega
        show _ = _
        unfold cmpN
        rw [if_pos h3]
        rfl
      · have h2 := niff_ltb.1 h2
        simp only [hol, hol2] at h2
        have h3 : n < m := by
          rcases Nat.lt_or_ge n m with h3 | h3
          · exact h3
          · have := ha.len.2 (Nat.lt_of_le_of_lt h3 (hb.len.1 (Nat.le_refl _)))
            omega
        show _ = _
        unfold cmpN
        rw [if_neg (by omega), if_pos h3]
        rfl
    · have h := niff_neb.1 h
      simp only [hol, hol2] at h
      have hs : (I.sub (I.ofNat .i64 (lenL a)) (I.of .i64 1)).val = a.length - 1 := by rw [sub_i64 (by omega)]; omega
      refine Wp.iter (fun x => x.1.1 = a ∧ x.1.2.1 = b ∧ -1 ≤ x.1.2.2.1.val ∧ x.1.2.2.1.val < (a.length : Int) ∧ bv (a.drop (x.1.2.2.1.val + 1).toNat) = bv (b.drop (x.1.2.2.1.val + 1).toNat)) (fun x => (x.1.2.2.1.val + 1).toNat) ?_ ?_ ?_
      · rintro ⟨⟨a', b', i, ⟨⟩⟩, ⟨⟩⟩ ⟨e1, e2, hi0, hi1, hd⟩
        simp only at e1 e2 hi0 hi1 hd
        subst e1 e2
        refine Wp.brn (fun h2 => ?_) (fun h2 => ?_)
        · have h2 := iff_leb.1 h2
          simp only [c0] at h2
          have ha1 : inB i (lenL a') = true := iff_inB.2 ⟨h2, by show i.val < ((a'.length : Nat) : Int); omega⟩
          have hb1 : inB i (lenL b') = true := iff_inB.2 ⟨h2, by show i.val < ((b'.length : Nat) : Int); omega⟩
          have en : (i.val + 1).toNat = i.val.toNat + 1 := by omega
          rw [en] at hd
          have na := (rd0_ok ha.dig i.val.toNat).nat
          have nb := (rd0_ok hb.dig i.val.toNat).nat
          refine Wp.brnT ha1 (Wp.brnT hb1 ?_)
          refine Wp.brn (fun h3 => ?_) (fun h3 => ?_)
          · have h3 := iff_ltb.1 h3
            have h3 : (rd0 a' i.val.toNat).val < (rd0 b' i.val.toNat).val := h3
            have := cmp_at ha.dig hb.dig i.val.toNat hd (by omega) (by omega) (by omega)
            rw [ha.val, hb.val] at this
            refine Wp.done ?_
            show _ = _
            unfold cmpN
            rw [if_pos this]
            rfl
          · have h3 := niff_ltb.1 h3
            have h3 : (rd0 b' i.val.toNat).val ≤ (rd0 a' i.val.toNat).val := h3
            refine Wp.brnT ha1 (Wp.brnT hb1 ?_)
            refine Wp.brn (fun h4 => ?_) (fun h4 => ?_)
            · have h4 := iff_ltb.1 h4
              have h4 : (rd0 b' i.val.toNat).val < (rd0 a' i.val.toNat).val := h4
              have := cmp_at hb.dig ha.dig i.val.toNat hd.symm (by omega) (by omega) (by omega)
              rw [ha.val, hb.val] at this
              refine Wp.done ?_
              show _ = _
              unfold cmpN
              rw [if_neg (by omega), if_pos this]
              rfl
            · have h4 := niff_ltb.1 h4
              have h4 : (rd0 a' i.val.toNat).val ≤ (rd0 b' i.val.toNat).val := h4
              have hsi : (I.sub i (I.of .i64 1)).val = i.val - 1 := by rw [sub_i64 (by omega)]; omega
              refine Wp.again ⟨rfl, rfl, ?_, ?_, ?_⟩ ?_
              · show -1 ≤ (I.sub i (I.of .i64 1)).val; omega
              · show (I.sub i (I.of .i64 1)).val < _; omega
              · show bv (a'.drop ((I.sub i (I.of .i64 1)).val + 1).toNat) = bv (b'.drop ((I.sub i (I.of .i64 1)).val + 1).toNat)
                have e : ((I.sub i (I.of .i64 1)).val + 1).toNat = i.val.toNat := by omega
                rw [e, bv_drop a', bv_drop b', hd]
                omega
              · show ((I.sub i (I.of .i64 1)).val + 1).toNat < _
                simp only; omega
        · have h2 := niff_leb.1 h2
          simp only [c0] at h2
          have e : (i.val + 1).toNat = 0 := by omega
          rw [e] at hd
          simp only [List.drop_zero] at hd
          rw [ha.val, hb.val] at hd
          refine Wp.done ?_
          show _ = _
          unfold cmpN
          rw [if_neg (by omega), if_neg (by omega)]
          rfl
      · refine ⟨rfl, rfl, ?_, ?_, ?_⟩
        · show -1 ≤ (I.sub (I.ofNat .i64 (lenL a)) (I.of .i64 1)).val; omega
        · show (I.sub (I.ofNat .i64 (lenL a)) (I.of .i64 1)).val < _; omega
        · show bv (a.drop ((I.sub (I.ofNat .i64 (lenL a)) (I.of .i64 1)).val + 1).toNat) = bv (b.drop ((I.sub (I.ofNat .i64 (lenL a)) (I.of .i64 1)).val + 1).toNat)
          have e : ((I.sub (I.ofNat .i64 (lenL a)) (I.of .i64 1)).val + 1).toNat = a.length := by omega
          rw [e, List.drop_of_length_le (Nat.le_refl _), List.drop_of_length_le (by omega)]
      · exact K0_ge _ (by show ((I.sub (I.ofNat .i64 (lenL a)) (I.of .i64 1)).val + 1).toNat < _; omega)
  exact key.out
end Sym

/- The law of the gas price's bounds, of the plain functions. -/
namespace Sym
open Go

def minS (a b : U) : U := if b.val < a.val then b else a

theorem K0_two : ∃ k, K0 = k + 2 := ⟨2 ^ 64 - 2, by rw [K0_eq]⟩

theorem uint256_Min_eq (a b : U) : uint256_Min ((a, [b], ()), ()) = some ((minS a b, ()), ()) := by
  obtain ⟨k, hk⟩ := K0_two
  refine Wp.out (T := fun o => o = some ((minS a b, ()), ())) ?_
  unfold uint256_Min
  rw [hk]
  refine Wp.unroll ?_
  refine Wp.brnT rfl ?_
  refine Wp.brnT rfl ?_
  refine Wp.optF (uint256_Cmp_eq b a) ?_
  unfold cmpS minS
  by_cases h : b.val < a.val
  · rw [if_pos h, if_pos h]
    refine Wp.brnT rfl ?_
    refine Wp.next (Wp.unroll ?_)
    refine Wp.brnF rfl ?_
    exact rfl
  · rw [if_neg h, if_neg h]
    refine Wp.brnF ?_ ?_
    · split <;> rfl
    · refine Wp.next (Wp.unroll ?_)
      refine Wp.brnF rfl ?_
      exact rfl

def gasS (t : U × U) (base : U) : U × I .i64 :=
  if base.val ≤ t.1.val then (U.of (base.val + min t.2.val (t.1.val - base.val)), I.of .i64 0) else (U.of 0, I.of .i64 12)

theorem neb00 : I.neb (I.of .i64 0) (I.of .i64 0) = false := rfl
theorem neb40 : I.neb (I.of .i64 4) (I.of .i64 0) = true := rfl

theorem minS_val (a b : U) : (minS a b).val = min a.val b.val := by
  unfold minS
  split <;> omega

theorem txfee_GasPrice_eq (f1 f2 f3 f5 f8 f9) (v c t base : U) : txfee_GasPrice (((f1, f2, f3, v, f5, c, t, f8, f9, ()), base, ()), ()) = some (((gasS (c, t) base).1, (gasS (c, t) base).2, ()), ()) := by
  refine Wp.out (T := fun o => o = some (((gasS (c, t) base).1, (gasS (c, t) base).2, ()), ())) ?_
  unfold txfee_GasPrice gasS
  refine Wp.optF (uint256_Sub_eq c base) ?_
  unfold subS
  by_cases h : base.val ≤ c.val
  · have hc := c.lt
    rw [if_pos h, if_pos h]
    refine Wp.brnF rfl ?_
    refine Wp.optF (uint256_Min_eq t _) ?_
    refine Wp.optF (uint256_Add_eq base _) ?_
    have e : (minS t (U.of (c.val - base.val))).val = min t.val (c.val - base.val) := by
      rw [minS_val, U.val_of (by omega)]
    have h2 : base.val + min t.val (c.val - base.val) < U.top := by omega
    show _ = _
    dsimp only
    have h3 : addS base (minS t (U.of (c.val - base.val))) = (U.of (base.val + min t.val (c.val - base.val)), I.of .i64 0) := by
      unfold addS
      rw [e, if_pos h2]
    rw [h3]
    rfl
  · rw [if_neg h, if_neg h]
    refine Wp.brnT rfl ?_
    rfl

theorem pontagelaw23_awake_eq : pontagelaw23_awake ((), ()) = some ((true, ()), ()) := by
  refine Wp.out (T := fun o => o = some ((true, ()), ())) ?_
  unfold pontagelaw23_awake
  refine Wp.optF (txfee_GasPrice_eq _ _ _ _ _ _ _ _ _ _) ?_
  refine Wp.optF (txfee_GasPrice_eq _ _ _ _ _ _ _ _ _ _) ?_
  refine Wp.brnT (by kernel_rfl) ?_
  refine Wp.brnT (by kernel_rfl) ?_
  show _ = _
  kernel_rfl

end Sym

/- Equality and order of 256 bits. -/
namespace Sym
open Go

theorem eqb_u256 (a b : U) : Ty.eqb (.arr 4 (.int .u64)) a b = decide (a.val = b.val) := by
  by_cases h : a.val = b.val
  · have := U.ext h
    subst this
    simp [Ty.eqb, Arr.eqb]
  · simp only [h, decide_false]
    cases hb : Ty.eqb (.arr 4 (.int .u64)) a b with
    | false => rfl
    | true =>
      exfalso
      apply h
      obtain ⟨a0, a1, a2, a3, ⟨⟩⟩ := a
      obtain ⟨b0, b1, b2, b3, ⟨⟩⟩ := b
      simp only [Ty.eqb, Arr.eqb, Bool.and_eq_true, decide_eq_true_eq, and_true] at hb
      obtain ⟨h0, h1, h2, h3⟩ := hb
      rw [I.ext' h0, I.ext' h1, I.ext' h2, I.ext' h3]

theorem cmp_le (a b : U) (h : a.val ≤ b.val) : I.leb (cmpS a b) (I.of .i64 0) = true := by
  unfold cmpS
  split
  · rfl
  · rw [if_neg (by omega)]; rfl

theorem cmp_lt (a b : U) (h : a.val < b.val) : I.ltb (cmpS a b) (I.of .i64 0) = true := by
  unfold cmpS
  rw [if_pos h]; rfl

end Sym

/- The law of the charge's total. -/
namespace Sym
open Go

theorem K0_four : ∃ k, K0 = k + 4 := ⟨2 ^ 64 - 4, by rw [K0_eq]⟩

theorem errS_lt {n : Nat} (h : n < U.top) : errS n = (U.of n, I.of .i64 0) := if_pos h
theorem errS_ge {n : Nat} (h : U.top ≤ n) : errS n = (U.of 0, I.of .i64 4) := if_neg (by omega)

theorem add_errS (a b : U) : addS a b = errS (a.val + b.val) := rfl

theorem Add_errS (a b : U) : uint256_Add ((a, b, ()), ()) = some (((errS (a.val + b.val)).1, (errS (a.val + b.val)).2, ()), ()) := uint256_Add_eq a b
theorem Add_errS' {m : Nat} (h : m < U.top) (b : U) : uint256_Add ((U.of m, b, ()), ()) = some (((errS (m + b.val)).1, (errS (m + b.val)).2, ()), ()) := by
  have := Add_errS (U.of m) b
  rw [U.val_of h] at this
  exact this

theorem Total_eq (f1 f2 f3 f4 f5) (t p q r s : U) : txfee_Total (((f1, f2, f3, f4, f5, t, p, q, r, s, ()), ()), ()) = some (((errS (p.val + q.val + r.val + s.val)).1, (errS (p.val + q.val + r.val + s.val)).2, ()), ()) := by
  obtain ⟨k, hk⟩ := K0_four
  refine Wp.out (T := fun o => o = some (((errS (p.val + q.val + r.val + s.val)).1, (errS (p.val + q.val + r.val + s.val)).2, ()), ())) ?_
  unfold txfee_Total
  rw [hk]
  refine Wp.unroll (Wp.brnT rfl (Wp.brnT rfl ?_))
  refine Wp.optF (Add_errS p q) ?_
  by_cases h1 : p.val + q.val < U.top
  · rw [errS_lt h1]
    refine Wp.brnF rfl (Wp.next (Wp.unroll (Wp.brnT rfl (Wp.brnT rfl ?_))))
    refine Wp.optF (Add_errS' h1 r) ?_
    by_cases h2 : p.val + q.val + r.val < U.top
    · rw [errS_lt h2]
      refine Wp.brnF rfl (Wp.next (Wp.unroll (Wp.brnT rfl (Wp.brnT rfl ?_))))
      refine Wp.optF (Add_errS' h2 s) ?_
      by_cases h3 : p.val + q.val + r.val + s.val < U.top
      · rw [errS_lt h3]
        refine Wp.brnF rfl (Wp.next (Wp.unroll (Wp.brnF rfl (Wp.stop rfl))))
      · rw [errS_ge (by omega)]
        exact Wp.brnT rfl (Wp.stop rfl)
    · rw [errS_ge (by omega), errS_ge (by omega)]
      exact Wp.brnT rfl (Wp.stop rfl)
  · rw [errS_ge (by omega), errS_ge (by omega)]
    exact Wp.brnT rfl (Wp.stop rfl)

theorem len_small {l : List Dg} {n : Nat} (h : IsB l n) (k : Nat) (hn : n < 65536 ^ k) (hk : k ≤ 1000000) : l.length ≤ 1000000 := Nat.le_trans (h.len.2 hn) hk
theorem top_pow : U.top = 65536 ^ 16 := by decide
theorem len_U {l : List Dg} {a : U} (h : IsB l a.val) : l.length ≤ 1000000 := len_small h 16 (by rw [← top_pow]; exact a.lt) (by decide)

theorem RefTotal_eq (f1 f2 f3 f4 f5) (t p q r s : U) : pontageref23_Total (((f1, f2, f3, f4, f5, t, p, q, r, s, ()), ()), ()) = some (((errS (p.val + q.val + r.val + s.val)).1, (errS (p.val + q.val + r.val + s.val)).2, ()), ()) := by
  have hp := p.lt
  have hq := q.lt
  have hr := r.lt
  have hs := s.lt
  have hb : 4 * U.top < 65536 ^ 17 := by decide
  refine Wp.out (T := fun o => o = some (((errS (p.val + q.val + r.val + s.val)).1, (errS (p.val + q.val + r.val + s.val)).2, ()), ())) ?_
  unfold pontageref23_Total
  obtain ⟨lp, ep, bp⟩ := FromUint256_ok p
  obtain ⟨lq, eq, bq⟩ := FromUint256_ok q
  obtain ⟨lr, er, br⟩ := FromUint256_ok r
  obtain ⟨ls, es, bs⟩ := FromUint256_ok s
  refine Wp.optF ep (Wp.optF eq ?_)
  obtain ⟨l1, e1, b1⟩ := Add_ok bp bq (len_U bp) (len_U bq)
  refine Wp.optF e1 (Wp.optF er (Wp.optF es ?_))
  obtain ⟨l2, e2, b2⟩ := Add_ok br bs (len_U br) (len_U bs)
  refine Wp.optF e2 ?_
  obtain ⟨l3, e3, b3⟩ := Add_ok b1 b2 (len_small b1 17 (by omega) (by decide)) (len_small b2 17 (by omega) (by decide))
  refine Wp.optF e3 ?_
  have hl := len_small b3 17 (by omega) (by decide)
  refine Wp.optF (Checked_ok' b3 hl) ?_
  show _ = _
  rw [show p.val + q.val + (r.val + s.val) = p.val + q.val + r.val + s.val by omega]
  rfl

theorem eqb_self (a : U) : Ty.eqb (.arr 4 (.int .u64)) a a = true := by rw [eqb_u256]; simp
theorem I.eqb_self {k : IntKind} (a : I k) : I.eqb a a = true := by simp [I.eqb]

theorem sum_law (f1 f2 f3 f4 f5) (t p q r s : U) (b0 b1 b2 b3 : I .u64) : pontagelaw23_TxFeeSum (((f1, f2, f3, f4, f5, t, p, q, r, s, ()), (b0, b1, b2, b3, ()), ()), ()) = some ((true, ()), ()) := by
  refine Wp.out (T := fun o => o = some ((true, ()), ())) ?_
  unfold pontagelaw23_TxFeeSum
  refine Wp.optF (Total_eq _ _ _ _ _ _ _ _ _ _) ?_
  refine Wp.optF (RefTotal_eq _ _ _ _ _ _ _ _ _ _) ?_
  refine Wp.optF (Total_eq _ _ _ _ _ _ _ _ _ _) ?_
  refine Wp.optF (RefTotal_eq _ _ _ _ _ _ _ _ _ _) ?_
  refine Wp.brnT (eqb_self _) (Wp.brnT (I.eqb_self _) (Wp.brnT (eqb_self _) (Wp.brnT (I.eqb_self _) ?_)))
  exact Wp.optF pontagelaw23_awake_eq rfl
end Sym

/- From what a row reads of the arguments to plain values, and from a contract to the row's answer. -/
namespace Sym
open Go

mutual
def argB (P : Program) : Ty → TypeId → Bool
  | .cons a b, id => match P.underlying id with
    | some (.struct fs) => (match fs.toList with
      | f :: r => argB P a f.type && fargB P b r
      | [] => false)
    | _ => false
  | .arr _ t, id => match P.underlying id with
    | some (.array _ e) => argB P t e
    | _ => false
  | .sl t, id => match P.underlying id with
    | some (.slice e) => Nat.ble 1 t.sz && (Nat.ble 1 (P.bytesOf e) && argB P t e)
    | _ => false
  | .opq, _ => false
  | _, _ => true
def fargB (P : Program) : Ty → List Field → Bool
  | .cons a b, f :: r => argB P a f.type && fargB P b r
  | _, _ => true
end

theorem mapM_some {X Y : Type} {f : X → Option Y} : ∀ {l : List X} {r : List Y}, l.mapM f = some r → r.length = l.length ∧ ∀ (i : Nat) (a : X), l[i]? = some a → ∃ b, r[i]? = some b ∧ f a = some b
  | [], r, h => by
    simp only [List.mapM_nil, Option.pure_def, Option.some.injEq] at h
    subst h
    exact ⟨rfl, fun i a h => by simp at h⟩
  | a :: l, r, h => by
    simp only [List.mapM_cons, Option.bind_eq_bind, Option.bind_eq_some_iff, Option.pure_def, Option.some.injEq] at h
    obtain ⟨b, hb, s, hs, rfl⟩ := h
    obtain ⟨h1, h2⟩ := mapM_some hs
    refine ⟨by simp [h1], fun i x hx => ?_⟩
    cases i with
    | zero =>
      simp only [List.getElem?_cons_zero, Option.some.injEq] at hx
      subst hx
      exact ⟨b, by simp, hb⟩
    | succ i =>
      simp only [List.getElem?_cons_succ] at hx
      obtain ⟨y, h3, h4⟩ := h2 i x hx
      exact ⟨y, by simp [h3], h4⟩

theorem mapM_range {Y : Type} {f : Nat → Option Y} {n : Nat} {r : List Y} (h : (List.range n).mapM f = some r) : r.length = n ∧ ∀ i, i < n → ∃ b, r[i]? = some b ∧ f i = some b := by
  obtain ⟨h1, h2⟩ := mapM_some h
  refine ⟨by simpa using h1, fun i hi => h2 i i (by simp [hi])⟩

theorem exists_list {X : Type} : ∀ (n : Nat) (R : Nat → X → Prop), (∀ i, i < n → ∃ x, R i x) → ∃ l : List X, l.length = n ∧ ∀ i x, l[i]? = some x → R i x
  | 0, _, _ => ⟨[], rfl, fun i x h => by simp at h⟩
  | n + 1, R, h => by
    obtain ⟨x, hx⟩ := h 0 (by omega)
    obtain ⟨l, h1, h2⟩ := exists_list n (fun i x => R (i + 1) x) fun i hi => h (i + 1) (by omega)
    refine ⟨x :: l, by simp [h1], fun i y hy => ?_⟩
    cases i with
    | zero => simp only [List.getElem?_cons_zero, Option.some.injEq] at hy; subst hy; exact hx
    | succ i => exact h2 i y (by simpa using hy)

theorem exists_arr {X : Type} {E : X → List Value → Prop} {s : Nat} : ∀ (n : Nat) (cs : List Value), cs.length = n * s → (∀ i, i < n → ∃ x, E x ((cs.drop (i * s)).take s)) → ∃ x, EncArr E n x cs
  | 0, cs, hl, _ => ⟨(), by simp at hl; exact hl⟩
  | n + 1, cs, hl, h => by
    obtain ⟨x, hx⟩ := h 0 (by omega)
    simp only [Nat.zero_mul, List.drop_zero] at hx
    obtain ⟨y, hy⟩ := exists_arr (E := E) (s := s) n (cs.drop s) (by rw [List.length_drop, hl, Nat.succ_mul]; omega) fun i hi => by
      obtain ⟨z, hz⟩ := h (i + 1) (by omega)
      refine ⟨z, ?_⟩
      rw [List.drop_drop, show s + i * s = (i + 1) * s by rw [Nat.succ_mul]; omega]
      exact hz
    exact ⟨(x, y), cs.take s, cs.drop s, (List.take_append_drop s cs).symm, hx, hy⟩

theorem weightsAll_mem {H : Type} {P : Program} {e : TypeId} : ∀ {ds : List (DataW H)} {i : Nat} {d : DataW H}, ds[i]? = some d → ∀ n ∈ d.weights P e, n ∈ DataW.weightsAll P e ds
  | d0 :: ds, 0, d, hd, n, hn => by
    simp only [List.getElem?_cons_zero, Option.some.injEq] at hd
    subst hd
    simp only [DataW.weightsAll, List.mem_append]
    exact .inl hn
  | d0 :: ds, i + 1, d, hd, n, hn => by
    simp only [List.getElem?_cons_succ] at hd
    simp only [DataW.weightsAll, List.mem_append]
    exact .inr (weightsAll_mem hd n hn)

def strOf (s : ByteArray) : List (I .u8) := s.data.toList.map fun b => I.of .u8 b.toNat

theorem bytesOf_strOf (s : ByteArray) : bytesOf (strOf s) = s := by
  unfold bytesOf strOf
  cases s with | mk a =>
  congr 1
  rw [List.map_map]
  have : ((fun c : I .u8 => UInt8.ofNat c.val.toNat) ∘ fun b : UInt8 => I.of .u8 b.toNat) = id := by
    funext b
    simp only [Function.comp, id, I.of, IntKind.wrap, IntKind.bits, IntKind.signed, Bool.false_and, Bool.false_eq_true, if_false]
    have := b.toNat_lt
    rw [show ((b.toNat : Int) % 2 ^ 8) = (b.toNat : Int) by omega, Int.toNat_natCast]
    exact UInt8.ofNat_toNat
  rw [this, List.map_id, Array.toArray_toList]

section
variable {H : Type} {enc : TypeId × Value → H} {P : Program} {W : World} {base : Nat} {spare : Nat → Bool} {held : Bool}

abbrev GW (W : World) : Nat → Prop := fun r => r < W.heap.size

theorem cell_lt {a : Addr} {v : Value} (h : W.cell? a = some v) : a.spot = none ∧ a.block < W.heap.size := by
  unfold World.cell? at h
  split at h
  · rename_i c _ _ hc
    split at h
    · cases h
    · rename_i hs
      refine ⟨by simpa using hs, ?_⟩
      rw [Array.getElem?_eq_some_iff] at hc
      exact hc.1
  · cases h

theorem cells_row {base : Nat} {a : Addr} {n : Nat} {ds : List Value} (h : W.cells? base a n = some ds) : ds.length = n ∧ ∀ j d, ds[j]? = some d → W.cell? (a.add j) = some d := by
  unfold World.cells? at h
  split at h
  · obtain ⟨h1, h2⟩ := mapM_range h
    refine ⟨h1, fun j d hd => ?_⟩
    obtain ⟨b, h3, h4⟩ := h2 j (by rw [← h1]; exact (List.getElem?_eq_some_iff.1 hd).1)
    rw [h3] at hd
    rw [h4, hd]
  · cases h

theorem addr_add {a : Addr} (hs : a.spot = none) (n : Nat) : a.add n = ⟨a.block, a.off + n, none⟩ := by
  unfold Addr.add
  cases a
  simp only at hs
  subst hs
  split
  · rename_i h; subst h; rfl
  · rfl

theorem enc_of_trod : ∀ (t : Ty),
    (∀ fuel id cs (d : DataW H) (p : List MemPlace), TOk P t id → argB P t id = true → DataW.trod enc P W base spare held fuel id cs = some (d, p) → (∀ n ∈ d.weights P id, n ≤ reachBytes) → ∃ x, Enc W (GW W) t x cs) ∧
    (∀ fuel (r : List Field) (o : Nat) (cs : List Value) (xs : List (DataW H × List MemPlace)), FOk P t r o → fargB P t r = true → xs.length = r.length →
      (∀ (i : Nat) (f : Field), r[i]? = some f → DataW.trod enc P W base spare held fuel f.type ((cs.drop f.offset).take (P.cellsOf f.type)) = xs[i]?) →
      (∀ n ∈ DataW.weightsEach P (r.map (·.type)) (xs.map (·.1)), n ≤ reachBytes) → cs.length = o + t.sz → ∃ x, Enc W (GW W) t x (cs.drop o)) := by
  intro t
  have nofld : ∀ t, (∀ a b, t ≠ .cons a b) → t ≠ .nil → ∀ (r : List Field) (o : Nat), ¬ FOk P t r o := by
    intro t h1 h2 r o h
    cases t <;> first | exact h1 _ _ rfl | exact h2 rfl | (cases r <;> exact h.elim)
  induction t with
  | int k =>
    refine ⟨fun fuel id cs d p hT _ h _ => ?_, fun fuel r o cs xs h => (nofld _ (by simp) (by simp) _ _ h).elim⟩
    obtain ⟨n, hcs, _, hw⟩ := DataW.trod_int hT.2 h
    simp only [Lit.wf, Bool.and_eq_true, decide_eq_true_eq] at hw
    exact ⟨(⟨n, wrap_eq_of_range hw⟩ : I k), hcs⟩
  | bool =>
    refine ⟨fun fuel id cs d p hT _ h _ => ?_, fun fuel r o cs xs h => (nofld _ (by simp) (by simp) _ _ h).elim⟩
    obtain ⟨n, hcs, _⟩ := DataW.trod_bool hT.2 h
    exact ⟨n, hcs⟩
  | str =>
    refine ⟨fun fuel id cs d p hT _ h hw => ?_, fun fuel r o cs xs h => (nofld _ (by simp) (by simp) _ _ h).elim⟩
    obtain ⟨s, hcs, hx, _⟩ := DataW.trod_string hT.2 h
    simp only [Prod.mk.injEq] at hx
    obtain ⟨rfl, rfl⟩ := hx
    refine ⟨strOf s, ?_, ?_⟩
    · rw [bytesOf_strOf]; exact hcs
    · have := hw s.data.toList.length (by simp [DataW.weights])
      have h2 : (strOf s).length = s.data.toList.length := List.length_map _
      show (strOf s).length ≤ LIM
      rw [h2]
      simp only [reachBytes, LIM] at *
      omega
  | nil =>
    refine ⟨fun fuel id cs d p hT _ h hw => ?_, fun fuel r o cs xs h _ _ _ _ hl => ⟨(), ?_⟩⟩
    · obtain ⟨xs, n, _, _, hl, _⟩ := DataW.trod_struct hT.2 h
      rw [hT.1] at hl
      exact ⟨(), List.eq_nil_of_length_eq_zero hl⟩
    · show cs.drop o = []
      simp only [Ty.sz, Nat.add_zero] at hl
      rw [List.drop_eq_nil_iff]; omega
  | cons a b iha ihb =>
    refine ⟨fun fuel id cs d p hT hA h hw => ?_, fun fuel r o cs xs hF hA hlen hf hw hl => ?_⟩
    · obtain ⟨hsz, fs, f, r, hu, hfs, hf0, hTa, hFb⟩ := hT
      obtain ⟨xs, n, _, hx, hl, hlen, hfx⟩ := DataW.trod_struct hu h
      simp only [Prod.mk.injEq] at hx
      obtain ⟨rfl, rfl⟩ := hx
      simp only [argB, hu, hfs, Bool.and_eq_true] at hA
      have hfl : ∀ (i : Nat) (g : Field), (f :: r)[i]? = some g → DataW.trod enc P W base spare held n g.type ((cs.drop g.offset).take (P.cellsOf g.type)) = xs[i]? := by
        intro i g hg
        refine hfx i g ?_
        rw [← Array.getElem?_toList, hfs]
        exact hg
      have hlen' : xs.length = r.length + 1 := by rw [hlen, ← Array.length_toList, hfs]; rfl
      match xs, hlen' with
      | y :: ys, hlen' =>
        simp only [DataW.weights, hu, hfs, List.map_cons, DataW.weightsEach, List.mem_append] at hw
        have h0 := hfl 0 f rfl
        simp only [List.getElem?_cons_zero] at h0
        rw [hf0, hTa.size, List.drop_zero] at h0
        obtain ⟨x, hx⟩ := iha.1 n f.type _ y.1 y.2 hTa hA.1 h0 (fun m hm => hw m (.inl hm))
        obtain ⟨z, hz⟩ := ihb.2 n r a.sz cs ys hFb hA.2 (by simpa using hlen') (fun i g hg => by simpa using hfl (i + 1) g hg) (fun m hm => hw m (.inr hm)) (by rw [hl, hsz])
        exact ⟨(x, z), _, _, (List.take_append_drop a.sz cs).symm, hx, hz⟩
    · cases r with
      | nil => exact hF.elim
      | cons f r =>
        obtain ⟨hf0, hTa, hFb⟩ := hF
        simp only [fargB, Bool.and_eq_true] at hA
        match xs, hlen with
        | y :: ys, hlen =>
          simp only [List.map_cons, DataW.weightsEach, List.mem_append] at hw
          have h0 := hf 0 f rfl
          simp only [List.getElem?_cons_zero] at h0
          rw [hf0, hTa.size] at h0
          simp only [Ty.sz] at hl
          obtain ⟨x, hx⟩ := iha.1 fuel f.type _ y.1 y.2 hTa hA.1 h0 (fun m hm => hw m (.inl hm))
          obtain ⟨z, hz⟩ := ihb.2 fuel r (o + a.sz) cs ys hFb hA.2 (by simpa using hlen) (fun i g hg => by simpa using hf (i + 1) g hg) (fun m hm => hw m (.inr hm)) (by omega)
          refine ⟨(x, z), _, _, (List.take_append_drop a.sz (cs.drop o)).symm, hx, ?_⟩
          rw [List.drop_drop]
          exact hz
  | arr n t ih =>
    refine ⟨fun fuel id cs d p hT hA h hw => ?_, fun fuel r o cs xs h => (nofld _ (by simp) (by simp) _ _ h).elim⟩
    obtain ⟨hsz, e, hu, hTe⟩ := hT
    obtain ⟨xs, m, _, hx, hl, hlen, hfx⟩ := DataW.trod_array hu h
    simp only [Prod.mk.injEq] at hx
    obtain ⟨rfl, rfl⟩ := hx
    simp only [argB, hu] at hA
    simp only [DataW.weights, hu] at hw
    refine exists_arr n cs (by rw [hl, hsz]) fun i hi => ?_
    have h0 := hfx i hi
    rw [hTe.size, List.getElem?_eq_getElem (by omega)] at h0
    refine ih.1 m e _ (xs[i]'(by omega)).1 (xs[i]'(by omega)).2 hTe hA h0 fun k hk => hw k (weightsAll_mem (i := i) ?_ k hk)
    rw [List.getElem?_map, List.getElem?_eq_getElem (by omega)]; rfl
  | sl t ih =>
    refine ⟨fun fuel id cs d p hT hA h hw => ?_, fun fuel r o cs xs h => (nofld _ (by simp) (by simp) _ _ h).elim⟩
    obtain ⟨hsz, e, hu, hTe⟩ := hT
    simp only [argB, hu, Bool.and_eq_true] at hA
    obtain ⟨hA1, hA2, hA⟩ := hA
    have hA1 := Nat.le_of_ble_eq_true hA1
    have hA2 := Nat.le_of_ble_eq_true hA2
    rcases DataW.trod_slice hu h with ⟨rfl, _⟩ | ⟨a, len, cap, elems, rest, m, _, rfl, hx, _, hlc, _, hel, hfx, _, _⟩
    · refine ⟨([] : List t.D), none, 0, rfl, Nat.le_refl _, by simp, .inl rfl⟩
    · simp only [Prod.mk.injEq] at hx
      obtain ⟨rfl, rfl⟩ := hx
      simp only [DataW.weights, hu, List.mem_cons, List.mem_append] at hw
      have hb := hw _ (.inl rfl)
      have hlim : len ≤ LIM := by
        have h1 : len ≤ (elems.length + rest.length) * P.bytesOf e := by
          rw [← hel]
          refine Nat.le_trans ?_ (Nat.mul_le_mul_left _ hA2)
          omega
        simp only [List.length_map] at hb
        simp only [reachBytes, LIM] at *
        omega
      have key : ∀ i, i < len → a.spot = none ∧ a.block < W.heap.size ∧ ∃ x ds, Enc W (GW W) t x ds ∧ cellsAt W a.block (a.off + i * t.sz) ds := by
        have one : ∀ i, i < len → ∃ (ds : List Value) (x : t.D), ds.length = t.sz ∧ Enc W (GW W) t x ds ∧ ∀ j d, ds[j]? = some d → W.cell? ((a.add (i * t.sz)).add j) = some d := by
          intro i hi
          have h0 := hfx i hi
          rw [List.getElem?_eq_getElem (by omega)] at h0
          simp only [Option.bind_eq_some_iff] at h0
          obtain ⟨ds, h1, h2⟩ := h0
          obtain ⟨h3, h4⟩ := cells_row h1
          rw [hTe.size] at h3 h4
          obtain ⟨x, hx⟩ := ih.1 m e ds (elems[i]'(by omega)).1 (elems[i]'(by omega)).2 hTe hA h2 fun k hk => hw k (.inr (.inl (weightsAll_mem (i := i) (by rw [List.getElem?_map, List.getElem?_eq_getElem (by omega)]; rfl) k hk)))
          exact ⟨ds, x, h3, hx, h4⟩
        intro i hi
        obtain ⟨ds, x, h1, h2, h3⟩ := one i hi
        obtain ⟨ds0, _, g1, _, g3⟩ := one 0 (by omega)
        have c0 := g3 0 (ds0[0]'(by omega)) (List.getElem?_eq_getElem _)
        simp only [Nat.zero_mul] at c0
        have e0 : (a.add 0).add 0 = a := by simp [Addr.add]
        rw [e0] at c0
        obtain ⟨hs, hlt⟩ := cell_lt c0
        refine ⟨hs, hlt, x, ds, h2, fun j d hd => ?_⟩
        have := h3 j d hd
        rw [addr_add hs, addr_add rfl] at this
        exact this
      obtain ⟨l, hl1, hl2⟩ := exists_list len (fun i x => ∃ ds, Enc W (GW W) t x ds ∧ cellsAt W a.block (a.off + i * t.sz) ds) fun i hi => (key i hi).2.2
      refine ⟨l, some a, cap, ?_, ?_, ?_, ?_⟩
      · show [Value.slice (some a) len cap] = [Value.slice (some a) l.length cap]; rw [hl1]
      · show l.length ≤ cap; omega
      · show l.length ≤ LIM; omega
      · by_cases h0 : len = 0
        · left; show l = []; exact List.eq_nil_of_length_eq_zero (by omega)
        · obtain ⟨h1, h2, _⟩ := key 0 (by omega)
          exact .inr ⟨a, rfl, h1, h2, hl2⟩
  | opq => exact ⟨fun fuel id cs d p hT hA => by simp [argB] at hA, fun fuel r o cs xs h => (nofld _ (by simp) (by simp) _ _ h).elim⟩
end

/-- What an argument's form leaves of its cells. -/
theorem val_of_ok {P : Program} {W : World} {rr : Reach} {base : Nat} {id : TypeId} {v : Value} {t : Ty} (hT : TOk P t id) (hne : t ≠ .opq) (h : Value.okWide P W rr base id v) : v = mkV t.isAgg v.cells.toList := by
  have agg : (∃ cs, v = .agg cs) → v = mkV true v.cells.toList := by
    rintro ⟨cs, rfl⟩
    show Value.agg cs = .agg _
    congr 1
  cases t with
  | int k => obtain ⟨n, rfl⟩ := Go.WideShapes.okWide_int hT.2 h; rfl
  | bool => obtain ⟨n, rfl⟩ := Go.WideShapes.okWide_bool hT.2 h; rfl
  | str => obtain ⟨n, rfl⟩ := Go.WideShapes.okWide_string hT.2 h; rfl
  | sl t => obtain ⟨_, e, hu, _⟩ := hT; obtain ⟨a, l, c, rfl⟩ := Go.WideShapes.okWide_slice hu h; rfl
  | opq => exact (hne rfl).elim
  | nil => obtain ⟨_, hu⟩ := hT; simp only [Value.okWide, hu] at h; exact agg ⟨_, h.choose_spec.1⟩
  | cons a b => obtain ⟨_, fs, f, r, hu, _⟩ := hT; simp only [Value.okWide, hu] at h; exact agg ⟨_, h.choose_spec.1⟩
  | arr n t => obtain ⟨_, e, hu, _⟩ := hT; simp only [Value.okWide, hu] at h; exact agg ⟨_, h.choose_spec.1⟩

def Arr.all {X : Type} (p : X → Prop) : (n : Nat) → Arr X n → Prop
  | 0, _ => True
  | n + 1, x => p x.1 ∧ Arr.all p n x.2

/-- No slice and no string is longer than memory. -/
def Ty.bd : (t : Ty) → t.D → Prop
  | .str, x => (show List (I .u8) from x).length ≤ LIM
  | .cons a b, x => a.bd x.1 ∧ b.bd x.2
  | .arr n t, x => Arr.all t.bd n x
  | .sl t, x => (show List t.D from x).length ≤ LIM ∧ ∀ (i : Nat) (y : t.D), (show List t.D from x)[i]? = some y → t.bd y
  | .int _, _ => True
  | .bool, _ => True
  | .nil, _ => True
  | .opq, _ => True

theorem EncArr_all {X : Type} {E : X → List Value → Prop} {p : X → Prop} (h : ∀ x cs, E x cs → p x) : ∀ (n : Nat) (x : Arr X n) (cs : List Value), EncArr E n x cs → Arr.all p n x
  | 0, _, _, _ => trivial
  | n + 1, x, cs, he => by
    obtain ⟨c1, c2, _, h1, h2⟩ := he
    exact ⟨h _ _ h1, EncArr_all h n x.2 c2 h2⟩

theorem Enc_bd {W : World} {G : Nat → Prop} : ∀ (t : Ty) (x : t.D) (cs : List Value), Enc W G t x cs → t.bd x := by
  intro t
  induction t with
  | int k => intro x cs _; trivial
  | bool => intro x cs _; trivial
  | nil => intro x cs _; trivial
  | opq => intro x cs _; trivial
  | str => intro x cs h; exact h.2
  | cons a b iha ihb => intro x cs h; obtain ⟨c1, c2, _, h1, h2⟩ := h; exact ⟨iha _ _ h1, ihb _ _ h2⟩
  | arr n t ih => intro x cs h; exact EncArr_all (fun x cs => ih x cs) n x cs h
  | sl t ih =>
    intro x cs h
    obtain ⟨a, c, _, _, hl, hx⟩ := h
    refine ⟨hl, fun i y hy => ?_⟩
    rcases hx with hx | ⟨ad, _, _, _, hr⟩
    · rw [hx] at hy; simp at hy
    · obtain ⟨ds, h1, _⟩ := hr i y hy
      exact ih y ds h1

def bdAll : (ts : List Ty) → ShD (ts.map .pl) → Prop
  | [], _ => True
  | t :: ts, x => t.bd x.1 ∧ bdAll ts x.2

def argsB (P : Program) : List Ty → List TypeId → Bool
  | [], [] => true
  | t :: ts, id :: ids => tokB P t id && (argB P t id && (P.readableRec id && (Nat.blt id P.types.size && argsB P ts ids)))
  | _, _ => false

section
variable {H : Type} {enc : TypeId × Value → H} {P : Program} {W : World}

def cx0 (W : World) : Cx := ⟨W, GW W, fun _ => .bool false, []⟩

theorem args_val {rr : Reach} {base : Nat} : ∀ (ts : List Ty) (ids : List TypeId) (vs : List Value) (ds : List (DataW H)) (ps : List MemPlace), argsB P ts ids = true →
    DataW.TrodAll enc P W 0 (fun _ => true) true ids vs ds ps → (∀ (j : Nat) t v, ids[j]? = some t → vs[j]? = some v → Value.okWide P W rr base t v) →
    (∀ n ∈ DataW.weightsEach P ids ds, n ≤ reachBytes) → ds.length = ts.length ∧ ∃ x : ShD (ts.map .pl), bdAll ts x ∧ All2 (VOk (cx0 W)) (mkSlots (ts.map .pl) x) vs
  | [], [], vs, ds, ps, _, hA, _, _ => by
    obtain ⟨rfl, rfl, rfl⟩ := Go.ChangeShapes.trodAll_nil hA
    exact ⟨rfl, (), trivial, trivial⟩
  | [], _ :: _, _, _, _, h, _, _, _ => by cases h
  | _ :: _, [], _, _, _, h, _, _, _ => by cases h
  | t :: ts, id :: ids, vs, ds, ps, h, hA, hv, hw => by
    simp only [argsB, Bool.and_eq_true] at h
    obtain ⟨h1, h2, _, _, h5⟩ := h
    obtain ⟨v, vs', d, ds', p, q, rfl, rfl, rfl, ⟨fuel, hd⟩, hrest⟩ := Go.ChangeShapes.trodAll_cons hA
    simp only [DataW.weightsEach, List.mem_append] at hw
    have hT := (tok_both P t).1 id h1
    obtain ⟨x, hx⟩ := (enc_of_trod t).1 fuel id _ d p hT h2 hd fun n hn => hw n (.inl hn)
    obtain ⟨hl, y, hbd, hy⟩ := args_val ts ids vs' ds' q h5 hrest (fun j t v ht hv' => hv (j + 1) t v (by simpa using ht) (by simpa using hv')) fun n hn => hw n (.inr hn)
    refine ⟨by simp [hl], (x, y), ⟨Enc_bd t x _ hx, hbd⟩, ?_, hy⟩
    refine ⟨_, hx, ?_⟩
    exact val_of_ok hT (by rintro rfl; simp [argB] at h2) (hv 0 id v rfl rfl)

theorem trodAll_below (hl : laidOutB P = true) {W' : World} (hb : Go.RowKit.Below W.heap.size W W') : ∀ (ts : List Ty) (ids : List TypeId) (vs : List Value) (ds : List (DataW H)) (ps : List MemPlace), argsB P ts ids = true →
    DataW.TrodAll enc P W 0 (fun _ => true) true ids vs ds ps → (∀ x ∈ ps, x.block < W.heap.size) → DataW.TrodAll enc P W' 0 (fun b => decide (b < W.heap.size)) true ids vs ds ps
  | [], [], vs, ds, ps, _, hA, _ => by
    obtain ⟨rfl, rfl, rfl⟩ := Go.ChangeShapes.trodAll_nil hA
    exact Go.ChangeShapes.trodAll_mk0
  | [], _ :: _, _, _, _, h, _, _ => by cases h
  | _ :: _, [], _, _, _, h, _, _ => by cases h
  | t :: ts, id :: ids, vs, ds, ps, h, hA, hlt => by
    simp only [argsB, Bool.and_eq_true] at h
    obtain ⟨_, _, h3, h4, h5⟩ := h
    obtain ⟨v, vs', d, ds', p, q, rfl, rfl, rfl, hd, hrest⟩ := Go.ChangeShapes.trodAll_cons hA
    refine ⟨p, q, Go.RowKit.Below.trod hl h3 (Nat.lt_of_succ_le (Nat.le_of_ble_eq_true h4)) hd hb fun x hx => hlt x (by simp [hx]), ?_, rfl⟩
    exact trodAll_below hl hb ts ids vs' ds' q h5 hrest fun x hx => hlt x (by simp [hx])

theorem start0 : Start (cx0 W) := by
  have hu : ∀ b, blkAt (cx0 W).H b = .unborn := fun b => by simp [cx0, blkAt]
  refine ⟨fun b => ?_, fun b b' r h => ?_, fun r hr => ⟨hr, fun b h => ?_⟩⟩
  · unfold BlkOk; rw [hu]; trivial
  · rw [hu] at h; cases h
  · rw [hu] at h; cases h

theorem row_of_con {C : Checked} {f : FuncId} {fn : Func} {s : ChangeSpec} {ts : List Ty} {bt : TypeId} {F : (⟨ts.map .pl, []⟩ : Tm).D → Option (⟨[.pl .bool], []⟩ : Tm).D}
    (hl : laidOutB C.prog = true) (hfn : C.prog.funcs[f]? = some fn) (hbody : fn.body.isSome = true) (hname : (fn.name == "runtime.NumGoroutine") = false)
    (hargs : argsB C.prog ts fn.params.toList = true) (hres : fn.resultTypes = #[bt]) (hbt : C.prog.underlying bt = some .bool) (hvars : s.vars = [])
    (hs : ∀ ds : List (DataW H), ds.length = ts.length → s.fn H ds = { results := [.lit (.bool true)], args := ds })
    (hcon : ConOk C.prog f ⟨⟨ts.map .pl, []⟩, ⟨[.pl .bool], []⟩, F⟩) (hF : ∀ x, bdAll ts x → F (x, ()) = some ((true, ()), ()))
    (base : Nat) (args : Array Value) (ds gs : List (DataW H)) (before : List MemPlace)
    (hval : ∀ (j : Nat) t v, fn.params[j]? = some t → args[j]? = some v → Value.okWide C.prog W .any base t v)
    (hW : DataW.Whole enc C.prog fn.params.toList s.vars false W args.toList ds gs before)
    (hsz : (DataW.weightsEach C.prog (fn.params.toList ++ s.plain.varTypes C.prog) (ds ++ gs)).all (· ≤ reachBytes) = true) :
    Calls C.prog f args W fun e W' => ∃ v, e = .returned v ∧ s.post enc C.prog fn false true false false W args v W' := by
  have hW' := hW
  obtain ⟨p, q, hA, hV, rfl, hfz, hnd⟩ := hW
  rw [hvars] at hV
  obtain ⟨rfl, rfl⟩ := Go.ChangeShapes.trodVars_none hV
  have hvt : s.plain.varTypes C.prog = [] := by simp [DataSpec.varTypes, ChangeSpec.plain, hvars]
  rw [hvt, List.append_nil, List.append_nil, List.all_eq_true] at hsz
  obtain ⟨hlen, x, hbd, hx⟩ := args_val (P := C.prog) ts fn.params.toList args.toList ds p hargs hA
    (fun j t v h1 h2 => hval j t v (by rw [← Array.getElem?_toList]; exact h1) (by rw [← Array.getElem?_toList]; exact h2)) fun n hn => of_decide_eq_true (hsz n hn)
  have key := hcon (x, ()) ((true, ()), ()) (hF x hbd) (cx0 W) args.toList start0 rfl hx
  rw [Array.toArray_toList] at key
  obtain ⟨b, hb⟩ := Option.isSome_iff_exists.1 hbody
  have hent := run_callFunc (args := args) (w := W) hfn hb hname
  rcases key with ⟨v, w', h1, _⟩ | ⟨_, h⟩
  · change (callFunc f args).run C.prog W = _ at h1
    rw [hent] at h1
    cases h1
  · refine h.mono fun e w' hr => ?_
    obtain ⟨v, he, c', hw, hH, hv, hM⟩ := hr
    subst he hw
    refine ⟨v, rfl, ?_⟩
    have hown : ∀ r, ¬ ownOf (cx0 W) r := by
      rintro r ⟨b, hb, _⟩
      simp [cx0, blkAt, live] at hb
    have bel : Go.RowKit.Below W.heap.size W c'.w := ⟨hM.os, hM.tape, hM.output, hM.size, fun k hk => hM.frame k hk (hown k)⟩
    obtain ⟨cs, hcs, hv⟩ := hv
    have hcs : cs = [.bool true] := hcs
    subst hcs
    have hv : v = .bool true := hv
    subst hv
    have hfnH := hs ds hlen
    refine ⟨ds, [], _, [], p, [], hW', ?_, ?_, ?_, bel.frame _, fun h => by cases h⟩
    · rw [List.append_nil, hfnH, hres]
      exact Go.ChangeShapes.trodAll_mk1 (Go.RowKit.shut_bool hbt _)
    · rw [List.append_nil, hfnH]
      refine trodAll_below hl bel ts _ _ _ _ hargs hA fun x hx => ?_
      exact DataW.TrodAll.lt hA x hx
    · rw [List.append_nil, hfnH, hvars]
      rfl
end
end Sym
