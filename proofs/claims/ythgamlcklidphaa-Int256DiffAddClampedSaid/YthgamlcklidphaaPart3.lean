/- The given functions as plain functions, as the printer told them. -/
import Derived.Test.YthgamlcklidphaaProg
import Derived.Test.YthgamlcklidphaaPart2
namespace Sym
open Go

/-- pontage/pontageref1.norm -/
noncomputable def pontageref1_norm (x : (⟨[.pl (.sl (.int .i64))], []⟩ : Tm).D) : Option (⟨[.pl (.sl (.int .i64))], []⟩ : Tm).D :=
 let a : List (I .i64) := x.1.1
 iter (none) (fun x0 =>
   brn (@I.ltb .i64 (I.of .i64 0) x0.1.2.1)
    (brn (@inB .i64 (@I.sub .i64 x0.1.2.1 (I.of .i64 1)) (@lenL (I .i64) x0.1.1))
     (brn (@I.eqb .i64 (@rdL (I .i64) (I.of .i64 0) x0.1.1 (@I.nat .i64 (@I.sub .i64 x0.1.2.1 (I.of .i64 1)))) (I.of .i64 0))
      (.again ((x0.1.1, ((@I.sub .i64 x0.1.2.1 (I.of .i64 1)), ())), ()))
      (.done (brn (@inB' .i64 x0.1.2.1 (@lenL (I .i64) x0.1.1))
       (some (((@subL (I .i64) x0.1.1 0 (@I.nat .i64 x0.1.2.1)), ()), ()))
       (none))))
     (.done (none)))
    (.done (brn (@inB' .i64 x0.1.2.1 (@lenL (I .i64) x0.1.1))
     (some (((@subL (I .i64) x0.1.1 0 (@I.nat .i64 x0.1.2.1)), ()), ()))
     (none))))
 K0 ((a, ((I.ofNat .i64 (@lenL (I .i64) a)), ())), ())

/-- pontage/pontageref1.Cmp -/
noncomputable def pontageref1_Cmp (x : (⟨[.pl (.sl (.int .i64)), .pl (.sl (.int .i64))], []⟩ : Tm).D) : Option (⟨[.pl (.int .i64)], []⟩ : Tm).D :=
 let a : List (I .i64) := x.1.1
 let b : List (I .i64) := x.1.2.1
 brn (@I.neb .i64 (I.ofNat .i64 (@lenL (I .i64) a)) (I.ofNat .i64 (@lenL (I .i64) b)))
  (brn (@I.ltb .i64 (I.ofNat .i64 (@lenL (I .i64) a)) (I.ofNat .i64 (@lenL (I .i64) b)))
   (some (((I.of .i64 (-1)), ()), ()))
   (some (((I.of .i64 1), ()), ())))
  (iter (none) (fun x0 =>
    brn (@I.leb .i64 (I.of .i64 0) x0.1.2.2.1)
     (brn (@inB .i64 x0.1.2.2.1 (@lenL (I .i64) x0.1.1))
      (brn (@inB .i64 x0.1.2.2.1 (@lenL (I .i64) x0.1.2.1))
       (brn (@I.ltb .i64 (@rdL (I .i64) (I.of .i64 0) x0.1.1 (@I.nat .i64 x0.1.2.2.1)) (@rdL (I .i64) (I.of .i64 0) x0.1.2.1 (@I.nat .i64 x0.1.2.2.1)))
        (.done (some (((I.of .i64 (-1)), ()), ())))
        (brn (@inB .i64 x0.1.2.2.1 (@lenL (I .i64) x0.1.1))
         (brn (@inB .i64 x0.1.2.2.1 (@lenL (I .i64) x0.1.2.1))
          (brn (@I.ltb .i64 (@rdL (I .i64) (I.of .i64 0) x0.1.2.1 (@I.nat .i64 x0.1.2.2.1)) (@rdL (I .i64) (I.of .i64 0) x0.1.1 (@I.nat .i64 x0.1.2.2.1)))
           (.done (some (((I.of .i64 1), ()), ())))
           (.again ((x0.1.1, (x0.1.2.1, ((@I.sub .i64 x0.1.2.2.1 (I.of .i64 1)), ()))), ())))
          (.done (none)))
         (.done (none))))
       (.done (none)))
      (.done (none)))
     (.done (some (((I.of .i64 0), ()), ()))))
  K0 ((a, (b, ((@I.sub .i64 (I.ofNat .i64 (@lenL (I .i64) a)) (I.of .i64 1)), ()))), ()))

/-- pontage/pontageref1.Sub -/
noncomputable def pontageref1_Sub (x : (⟨[.pl (.sl (.int .i64)), .pl (.sl (.int .i64))], []⟩ : Tm).D) : Option (⟨[.pl (.sl (.int .i64))], []⟩ : Tm).D :=
 let a : List (I .i64) := x.1.1
 let b : List (I .i64) := x.1.2.1
 brn (@inB' .i64 (I.ofNat .i64 (@lenL (I .i64) a)) (@I.nat .i64 (I.ofNat .i64 (@lenL (I .i64) a))))
  (brn (@inB' .i64 (I.ofNat .i64 (@lenL (I .i64) a)) 1073741824)
   (iter (none) (fun x0 =>
     brn (@I.ltb .i64 x0.1.2.2.2.1 (I.ofNat .i64 (@lenL (I .i64) x0.1.1)))
      (brn (@inB .i64 x0.1.2.2.2.1 (@lenL (I .i64) x0.1.1))
       (jn (fun (x1 : (((List (I .i64)) × ((List (I .i64)) × ((I .i64) × ((I .i64) × Unit)))) × ((List (I .i64)) × Unit))) =>
         brn (@I.ltb .i64 x1.1.2.2.2.1 (I.of .i64 0))
          (brn (@inB .i64 x1.1.2.2.1 (@lenL (I .i64) x1.2.1))
           (.again ((x1.1.1, (x1.1.2.1, ((I.of .i64 1), ((@I.add .i64 x1.1.2.2.1 (I.of .i64 1)), ())))), ((@setL (I .i64) x1.2.1 (@I.nat .i64 x1.1.2.2.1) (@I.add .i64 x1.1.2.2.2.1 (I.of .i64 65536))), ())))
           (.done (none)))
          (brn (@inB .i64 x1.1.2.2.1 (@lenL (I .i64) x1.2.1))
           (.again ((x1.1.1, (x1.1.2.1, ((I.of .i64 0), ((@I.add .i64 x1.1.2.2.1 (I.of .i64 1)), ())))), ((@setL (I .i64) x1.2.1 (@I.nat .i64 x1.1.2.2.1) x1.1.2.2.2.1), ())))
           (.done (none)))) fun j1 =>
       brn (@I.ltb .i64 x0.1.2.2.2.1 (I.ofNat .i64 (@lenL (I .i64) x0.1.2.1)))
        (brn (@inB .i64 x0.1.2.2.2.1 (@lenL (I .i64) x0.1.2.1))
         (j1 ((x0.1.1, (x0.1.2.1, (x0.1.2.2.2.1, ((@I.sub .i64 (@I.sub .i64 (@rdL (I .i64) (I.of .i64 0) x0.1.1 (@I.nat .i64 x0.1.2.2.2.1)) x0.1.2.2.1) (@rdL (I .i64) (I.of .i64 0) x0.1.2.1 (@I.nat .i64 x0.1.2.2.2.1))), ())))), (x0.2.1, ())))
         (.done (none)))
        (j1 ((x0.1.1, (x0.1.2.1, (x0.1.2.2.2.1, ((@I.sub .i64 (@rdL (I .i64) (I.of .i64 0) x0.1.1 (@I.nat .i64 x0.1.2.2.2.1)) x0.1.2.2.1), ())))), (x0.2.1, ()))))
       (.done (none)))
      (.done (optF (none) (pontageref1_norm ((x0.2.1, ()), ())) fun y1 =>
      some ((y1.1.1, ()), ()))))
   K0 ((a, (b, ((I.of .i64 0), ((I.of .i64 0), ())))), ((@repD (I .i64) (@I.nat .i64 (I.ofNat .i64 (@lenL (I .i64) a))) (I.of .i64 0)), ())))
   (none))
  (none)

/-- pontage/pontageref1.short -/
noncomputable def pontageref1_short (x : (⟨[.pl (.sl (.int .i64)), .pl (.int .i64)], []⟩ : Tm).D) : Option (⟨[.pl (.sl (.int .i64)), .pl (.sl (.int .i64))], []⟩ : Tm).D :=
 let a : List (I .i64) := x.1.1
 let b : I .i64 := x.1.2.1
 brn (@inB' .i64 (I.ofNat .i64 (@lenL (I .i64) a)) (@I.nat .i64 (I.ofNat .i64 (@lenL (I .i64) a))))
  (brn (@inB' .i64 (I.ofNat .i64 (@lenL (I .i64) a)) 1073741824)
   (iter (none) (fun x0 =>
     brn (@I.leb .i64 (I.of .i64 0) x0.1.2.2.2.1)
      (brn (@inB .i64 x0.1.2.2.2.1 (@lenL (I .i64) x0.1.1))
       (brn (@I.nz .i64 x0.1.2.1)
        (brn (@I.nz .i64 x0.1.2.1)
         (brn (@inB .i64 x0.1.2.2.2.1 (@lenL (I .i64) x0.2.1))
          (.again ((x0.1.1, (x0.1.2.1, ((@I.rem .i64 (@I.add .i64 (@I.mul .i64 (I.of .i64 65536) x0.1.2.2.1) (@rdL (I .i64) (I.of .i64 0) x0.1.1 (@I.nat .i64 x0.1.2.2.2.1))) x0.1.2.1), ((@I.sub .i64 x0.1.2.2.2.1 (I.of .i64 1)), ())))), ((@setL (I .i64) x0.2.1 (@I.nat .i64 x0.1.2.2.2.1) (@I.quo .i64 (@I.add .i64 (@I.mul .i64 (I.of .i64 65536) x0.1.2.2.1) (@rdL (I .i64) (I.of .i64 0) x0.1.1 (@I.nat .i64 x0.1.2.2.2.1))) x0.1.2.1)), ())))
          (.done (none)))
         (.done (none)))
        (.done (none)))
       (.done (none)))
      (.done (optF (none) (pontageref1_norm ((x0.2.1, ()), ())) fun y1 =>
      optF (none) (pontageref1_norm (((x0.1.2.2.1 :: []), ()), ())) fun y2 =>
      some ((y1.1.1, (y2.1.1, ())), ()))))
   K0 ((a, (b, ((I.of .i64 0), ((@I.sub .i64 (I.ofNat .i64 (@lenL (I .i64) a)) (I.of .i64 1)), ())))), ((@repD (I .i64) (@I.nat .i64 (I.ofNat .i64 (@lenL (I .i64) a))) (I.of .i64 0)), ())))
   (none))
  (none)

/-- pontage/pontageref1.Div -/
noncomputable def pontageref1_Div (x : (⟨[.pl (.sl (.int .i64)), .pl (.sl (.int .i64))], []⟩ : Tm).D) : Option (⟨[.pl (.sl (.int .i64)), .pl (.sl (.int .i64))], []⟩ : Tm).D :=
 let a : List (I .i64) := x.1.1
 let b : List (I .i64) := x.1.2.1
 brn (@I.eqb .i64 (I.ofNat .i64 (@lenL (I .i64) b)) (I.of .i64 1))
  (brn (@inB .i64 (I.of .i64 0) (@lenL (I .i64) b))
   (optF (none) (pontageref1_short ((a, ((@rdL (I .i64) (I.of .i64 0) b 0), ())), ())) fun y0 =>
   some ((y0.1.1, (y0.1.2.1, ())), ()))
   (none))
  (brn (@inB' .i64 (I.ofNat .i64 (@lenL (I .i64) a)) (@I.nat .i64 (I.ofNat .i64 (@lenL (I .i64) a))))
   (brn (@inB' .i64 (I.ofNat .i64 (@lenL (I .i64) a)) 1073741824)
    (brn (@inB' .i64 (@I.add .i64 (I.ofNat .i64 (@lenL (I .i64) b)) (I.of .i64 1)) (@I.nat .i64 (@I.add .i64 (I.ofNat .i64 (@lenL (I .i64) b)) (I.of .i64 1))))
     (brn (@inB' .i64 (@I.add .i64 (I.ofNat .i64 (@lenL (I .i64) b)) (I.of .i64 1)) 1073741824)
      (iter (none) (fun x0 =>
        brn (@I.leb .i64 (I.of .i64 0) x0.1.2.2.1)
         (iter (.done (none)) (fun x1 =>
           brn (@I.leb .i64 (I.of .i64 0) x1.1.2.2.2.1)
            (brn (@inB .i64 x1.1.2.2.1 (@lenL (I .i64) x1.1.1))
             (brn (@I.nn .u64 (I.conv (k := .i64) .u64 x1.1.2.2.2.1))
              (iter (.done (.done (none))) (fun x2 =>
                brn (@I.ltb .i64 x2.1.2.2.2.2.2.1 (I.ofNat .i64 (@lenL (I .i64) x2.2.2.1)))
                 (brn (@inB .i64 x2.1.2.2.2.2.2.1 (@lenL (I .i64) x2.2.2.1))
                  (brn (@inB .i64 x2.1.2.2.2.2.2.1 (@lenL (I .i64) x2.2.2.1))
                   (.again ((x2.1.1, (x2.1.2.1, (x2.1.2.2.1, (x2.1.2.2.2.1, ((@I.shr .i64 .u64 (@I.add .i64 x2.1.2.2.2.2.1 (@I.mul .i64 (I.of .i64 2) (@rdL (I .i64) (I.of .i64 0) x2.2.2.1 (@I.nat .i64 x2.1.2.2.2.2.2.1)))) (I.of .u64 16)), ((@I.add .i64 x2.1.2.2.2.2.2.1 (I.of .i64 1)), ())))))), (x2.2.1, ((@setL (I .i64) x2.2.2.1 (@I.nat .i64 x2.1.2.2.2.2.2.1) (@I.and .i64 (@I.add .i64 x2.1.2.2.2.2.1 (@I.mul .i64 (I.of .i64 2) (@rdL (I .i64) (I.of .i64 0) x2.2.2.1 (@I.nat .i64 x2.1.2.2.2.2.2.1)))) (I.of .i64 65535))), ()))))
                   (.done (.done (.done (none)))))
                  (.done (.done (.done (none)))))
                 (.done (optF (.done (.done (none))) (pontageref1_norm ((x2.2.2.1, ()), ())) fun y3 =>
                 optF (.done (.done (none))) (pontageref1_Cmp ((y3.1.1, (x2.1.2.1, ())), ())) fun y4 =>
                 brn (@I.leb .i64 (I.of .i64 0) y4.1.1)
                  (.done (.done (none)))
                  (.done (.done (none))))))
              K0 ((x1.1.1, (x1.1.2.1, (x1.1.2.2.1, (x1.1.2.2.2.1, ((@I.and .i64 (@I.shr .i64 .u64 (@rdL (I .i64) (I.of .i64 0) x1.1.1 (@I.nat .i64 x1.1.2.2.1)) (I.conv (k := .i64) .u64 x1.1.2.2.2.1)) (I.of .i64 1)), ((I.of .i64 0), ())))))), (x1.2.1, (x1.2.2.1, ()))))
              (.done (.done (none))))
             (.done (.done (none))))
            (.done (.again ((x1.1.1, (x1.1.2.1, ((@I.sub .i64 x1.1.2.2.1 (I.of .i64 1)), ()))), (x1.2.1, (x1.2.2.1, ()))))))
         K0 ((x0.1.1, (x0.1.2.1, (x0.1.2.2.1, ((I.of .i64 15), ())))), (x0.2.1, (x0.2.2.1, ()))))
         (.done (optF (none) (pontageref1_norm ((x0.2.1, ()), ())) fun y1 =>
         optF (none) (pontageref1_norm ((x0.2.2.1, ()), ())) fun y2 =>
         some ((y1.1.1, (y2.1.1, ())), ()))))
      K0 ((a, (b, ((@I.sub .i64 (I.ofNat .i64 (@lenL (I .i64) a)) (I.of .i64 1)), ()))), ((@repD (I .i64) (@I.nat .i64 (I.ofNat .i64 (@lenL (I .i64) a))) (I.of .i64 0)), ((@repD (I .i64) (@I.nat .i64 (@I.add .i64 (I.ofNat .i64 (@lenL (I .i64) b)) (I.of .i64 1))) (I.of .i64 0)), ()))))
      (none))
     (none))
    (none))
   (none))

/-- pontage/pontageref1.Add -/
noncomputable def pontageref1_Add (x : (⟨[.pl (.sl (.int .i64)), .pl (.sl (.int .i64))], []⟩ : Tm).D) : Option (⟨[.pl (.sl (.int .i64))], []⟩ : Tm).D :=
 let a : List (I .i64) := x.1.1
 let b : List (I .i64) := x.1.2.1
 iter (none) (fun x0 =>
   jn (fun (x1 : (((List (I .i64)) × ((List (I .i64)) × ((I .i64) × ((I .i64) × Unit)))) × ((List (I .i64)) × Unit))) =>
     jn (fun (x2 : (((List (I .i64)) × ((List (I .i64)) × ((I .i64) × ((I .i64) × Unit)))) × ((List (I .i64)) × Unit))) =>
       brn (@I.ltb .i64 x2.1.2.2.2.1 (I.ofNat .i64 (@lenL (I .i64) x2.1.2.1)))
        (brn (@inB .i64 x2.1.2.2.2.1 (@lenL (I .i64) x2.1.2.1))
         (brn (fitsLen (@lenL (I .i64) (@appL (I .i64) x2.2.1 ((@I.and .i64 (@I.add .i64 x2.1.2.2.1 (@rdL (I .i64) (I.of .i64 0) x2.1.2.1 (@I.nat .i64 x2.1.2.2.2.1))) (I.of .i64 65535)) :: []))))
          (.again ((x2.1.1, (x2.1.2.1, ((@I.shr .i64 .u64 (@I.add .i64 x2.1.2.2.1 (@rdL (I .i64) (I.of .i64 0) x2.1.2.1 (@I.nat .i64 x2.1.2.2.2.1))) (I.of .u64 16)), ((@I.add .i64 x2.1.2.2.2.1 (I.of .i64 1)), ())))), ((@appL (I .i64) x2.2.1 ((@I.and .i64 (@I.add .i64 x2.1.2.2.1 (@rdL (I .i64) (I.of .i64 0) x2.1.2.1 (@I.nat .i64 x2.1.2.2.2.1))) (I.of .i64 65535)) :: [])), ())))
          (.done (none)))
         (.done (none)))
        (brn (fitsLen (@lenL (I .i64) (@appL (I .i64) x2.2.1 ((@I.and .i64 x2.1.2.2.1 (I.of .i64 65535)) :: []))))
         (.again ((x2.1.1, (x2.1.2.1, ((@I.shr .i64 .u64 x2.1.2.2.1 (I.of .u64 16)), ((@I.add .i64 x2.1.2.2.2.1 (I.of .i64 1)), ())))), ((@appL (I .i64) x2.2.1 ((@I.and .i64 x2.1.2.2.1 (I.of .i64 65535)) :: [])), ())))
         (.done (none)))) fun j2 =>
     brn (@I.ltb .i64 x1.1.2.2.2.1 (I.ofNat .i64 (@lenL (I .i64) x1.1.1)))
      (brn (@inB .i64 x1.1.2.2.2.1 (@lenL (I .i64) x1.1.1))
       (j2 ((x1.1.1, (x1.1.2.1, ((@I.add .i64 x1.1.2.2.1 (@rdL (I .i64) (I.of .i64 0) x1.1.1 (@I.nat .i64 x1.1.2.2.2.1))), (x1.1.2.2.2.1, ())))), (x1.2.1, ())))
       (.done (none)))
      (j2 ((x1.1.1, (x1.1.2.1, (x1.1.2.2.1, (x1.1.2.2.2.1, ())))), (x1.2.1, ())))) fun j1 =>
   brn (@I.ltb .i64 x0.1.2.2.2.1 (I.ofNat .i64 (@lenL (I .i64) x0.1.1)))
    (j1 ((x0.1.1, (x0.1.2.1, (x0.1.2.2.1, (x0.1.2.2.2.1, ())))), (x0.2.1, ())))
    (brn (@I.ltb .i64 x0.1.2.2.2.1 (I.ofNat .i64 (@lenL (I .i64) x0.1.2.1)))
     (j1 ((x0.1.1, (x0.1.2.1, (x0.1.2.2.1, (x0.1.2.2.2.1, ())))), (x0.2.1, ())))
     (brn (@I.ltb .i64 (I.of .i64 0) x0.1.2.2.1)
      (j1 ((x0.1.1, (x0.1.2.1, (x0.1.2.2.1, (x0.1.2.2.2.1, ())))), (x0.2.1, ())))
      (.done (some ((x0.2.1, ()), ()))))))
 K0 ((a, (b, ((I.of .i64 0), ((I.of .i64 0), ())))), ([], ()))

/-- pontage/pontageref1.FromUint256 -/
noncomputable def pontageref1_FromUint256 (x : (⟨[.pl (.arr 4 (.int .u64))], []⟩ : Tm).D) : Option (⟨[.pl (.sl (.int .i64))], []⟩ : Tm).D :=
 let a : (I .u64) × (I .u64) × (I .u64) × (I .u64) × Unit := x.1.1
 iter (none) (fun x0 =>
   brn (@I.ltb .i64 x0.1.1 (I.of .i64 16))
    (brn (@inB .i64 (@I.quo .i64 x0.1.1 (I.of .i64 4)) 4)
     (brn (@I.nn .u64 (I.conv (k := .i64) .u64 (@I.mul .i64 (I.of .i64 16) (@I.rem .i64 x0.1.1 (I.of .i64 4)))))
      (brn (@inB .i64 x0.1.1 (@lenL (I .i64) x0.2.2.1))
       (.again (((@I.add .i64 x0.1.1 (I.of .i64 1)), ()), (x0.2.1, ((@setL (I .i64) x0.2.2.1 (@I.nat .i64 x0.1.1) (I.conv (k := .u64) .i64 (@I.and .u64 (@I.shr .u64 .u64 (@Arr.sel (I .u64) (I.of .u64 0) 4 x0.2.1 (@I.nat .i64 (@I.quo .i64 x0.1.1 (I.of .i64 4)))) (I.conv (k := .i64) .u64 (@I.mul .i64 (I.of .i64 16) (@I.rem .i64 x0.1.1 (I.of .i64 4))))) (I.of .u64 65535)))), ()))))
       (.done (none)))
      (.done (none)))
     (.done (none)))
    (.done (optF (none) (pontageref1_norm ((x0.2.2.1, ()), ())) fun y1 =>
    some ((y1.1.1, ()), ()))))
 K0 (((I.of .i64 0), ()), (a, ((@repD (I .i64) 16 (I.of .i64 0)), ())))

/-- pontage/pontageref1.FromUint64 -/
noncomputable def pontageref1_FromUint64 (x : (⟨[.pl (.int .u64)], []⟩ : Tm).D) : Option (⟨[.pl (.sl (.int .i64))], []⟩ : Tm).D :=
 let a : I .u64 := x.1.1
 optF (none) (pontageref1_FromUint256 (((a, ((I.of .u64 0), ((I.of .u64 0), ((I.of .u64 0), ())))), ()), ())) fun y0 =>
 some ((y0.1.1, ()), ())

/-- pontage/pontageref1.Fits -/
noncomputable def pontageref1_Fits (x : (⟨[.pl (.sl (.int .i64))], []⟩ : Tm).D) : Option (⟨[.pl .bool], []⟩ : Tm).D :=
 let a : List (I .i64) := x.1.1
 some (((@I.leb .i64 (I.ofNat .i64 (@lenL (I .i64) a)) (I.of .i64 16)), ()), ())

/-- pontage/pontageref1.ToUint256 -/
noncomputable def pontageref1_ToUint256 (x : (⟨[.pl (.sl (.int .i64))], []⟩ : Tm).D) : Option (⟨[.pl (.arr 4 (.int .u64))], []⟩ : Tm).D :=
 let a : List (I .i64) := x.1.1
 iter (none) (fun x0 =>
   jn (fun (x1 : (((List (I .i64)) × ((I .i64) × ((I .i64) × (Bool × Unit)))) × (((I .u64) × ((I .u64) × ((I .u64) × ((I .u64) × Unit)))) × (((I .u64) × ((I .u64) × ((I .u64) × ((I .u64) × Unit)))) × Unit)))) =>
     brn (@inB .i64 (@I.quo .i64 x1.1.2.1 (I.of .i64 4)) 4)
      (brn (@inB .i64 x1.1.2.1 (@lenL (I .i64) x1.1.1))
       (brn (@I.nn .u64 (I.conv (k := .i64) .u64 (@I.mul .i64 (I.of .i64 16) (@I.rem .i64 x1.1.2.1 (I.of .i64 4)))))
        (brn (@inB .i64 (@I.quo .i64 x1.1.2.1 (I.of .i64 4)) 4)
         (.again ((x1.1.1, ((@I.add .i64 x1.1.2.1 (I.of .i64 1)), ())), (x1.2.1, ((@Arr.upd (I .u64) 4 x1.2.2.1 (@I.nat .i64 (@I.quo .i64 x1.1.2.1 (I.of .i64 4))) (@I.add .u64 (@Arr.sel (I .u64) (I.of .u64 0) 4 x1.2.2.1 (@I.nat .i64 (@I.quo .i64 x1.1.2.1 (I.of .i64 4)))) (@I.shl .u64 .u64 (I.conv (k := .i64) .u64 (@rdL (I .i64) (I.of .i64 0) x1.1.1 (@I.nat .i64 x1.1.2.1))) (I.conv (k := .i64) .u64 (@I.mul .i64 (I.of .i64 16) (@I.rem .i64 x1.1.2.1 (I.of .i64 4))))))), ()))))
         (.done (none)))
        (.done (none)))
       (.done (none)))
      (.done (none))) fun j1 =>
   brn (@I.ltb .i64 x0.1.2.1 (I.ofNat .i64 (@lenL (I .i64) x0.1.1)))
    (brn (@I.ltb .i64 x0.1.2.1 (I.of .i64 16))
     (j1 ((x0.1.1, (x0.1.2.1, (x0.1.2.1, ((@I.ltb .i64 x0.1.2.1 (I.of .i64 16)), ())))), (x0.2.1, (x0.2.2.1, ()))))
     (.done (some ((x0.2.2.1, ()), ()))))
    (.done (some ((x0.2.2.1, ()), ()))))
 K0 ((a, ((I.of .i64 0), ())), (((I.of .u64 0), ((I.of .u64 0), ((I.of .u64 0), ((I.of .u64 0), ())))), (((I.of .u64 0), ((I.of .u64 0), ((I.of .u64 0), ((I.of .u64 0), ())))), ())))

/-- pontage/pontageref1.Mul -/
noncomputable def pontageref1_Mul (x : (⟨[.pl (.sl (.int .i64)), .pl (.sl (.int .i64))], []⟩ : Tm).D) : Option (⟨[.pl (.sl (.int .i64))], []⟩ : Tm).D :=
 let a : List (I .i64) := x.1.1
 let b : List (I .i64) := x.1.2.1
 brn (@inB' .i64 (@I.add .i64 (I.ofNat .i64 (@lenL (I .i64) a)) (I.ofNat .i64 (@lenL (I .i64) b))) (@I.nat .i64 (@I.add .i64 (I.ofNat .i64 (@lenL (I .i64) a)) (I.ofNat .i64 (@lenL (I .i64) b)))))
  (brn (@inB' .i64 (@I.add .i64 (I.ofNat .i64 (@lenL (I .i64) a)) (I.ofNat .i64 (@lenL (I .i64) b))) 1073741824)
   (iter (none) (fun x0 =>
     brn (@I.ltb .i64 x0.1.2.2.1 (I.ofNat .i64 (@lenL (I .i64) x0.1.1)))
      (iter (.done (none)) (fun x1 =>
        brn (@I.ltb .i64 x1.1.2.2.2.2.1 (I.ofNat .i64 (@lenL (I .i64) x1.1.2.1)))
         (brn (@inB .i64 (@I.add .i64 x1.1.2.2.1 x1.1.2.2.2.2.1) (@lenL (I .i64) x1.2.1))
          (brn (@inB .i64 x1.1.2.2.1 (@lenL (I .i64) x1.1.1))
           (brn (@inB .i64 x1.1.2.2.2.2.1 (@lenL (I .i64) x1.1.2.1))
            (brn (@inB .i64 (@I.add .i64 x1.1.2.2.1 x1.1.2.2.2.2.1) (@lenL (I .i64) x1.2.1))
             (.again ((x1.1.1, (x1.1.2.1, (x1.1.2.2.1, ((@I.shr .i64 .u64 (@I.add .i64 (@I.add .i64 x1.1.2.2.2.1 (@rdL (I .i64) (I.of .i64 0) x1.2.1 (@I.nat .i64 (@I.add .i64 x1.1.2.2.1 x1.1.2.2.2.2.1)))) (@I.mul .i64 (@rdL (I .i64) (I.of .i64 0) x1.1.1 (@I.nat .i64 x1.1.2.2.1)) (@rdL (I .i64) (I.of .i64 0) x1.1.2.1 (@I.nat .i64 x1.1.2.2.2.2.1)))) (I.of .u64 16)), ((@I.add .i64 x1.1.2.2.2.2.1 (I.of .i64 1)), ()))))), ((@setL (I .i64) x1.2.1 (@I.nat .i64 (@I.add .i64 x1.1.2.2.1 x1.1.2.2.2.2.1)) (@I.and .i64 (@I.add .i64 (@I.add .i64 x1.1.2.2.2.1 (@rdL (I .i64) (I.of .i64 0) x1.2.1 (@I.nat .i64 (@I.add .i64 x1.1.2.2.1 x1.1.2.2.2.2.1)))) (@I.mul .i64 (@rdL (I .i64) (I.of .i64 0) x1.1.1 (@I.nat .i64 x1.1.2.2.1)) (@rdL (I .i64) (I.of .i64 0) x1.1.2.1 (@I.nat .i64 x1.1.2.2.2.2.1)))) (I.of .i64 65535))), ())))
             (.done (.done (none))))
            (.done (.done (none))))
           (.done (.done (none))))
          (.done (.done (none))))
         (.done (brn (@inB .i64 (@I.add .i64 x1.1.2.2.1 (I.ofNat .i64 (@lenL (I .i64) x1.1.2.1))) (@lenL (I .i64) x1.2.1))
          (.again ((x1.1.1, (x1.1.2.1, ((@I.add .i64 x1.1.2.2.1 (I.of .i64 1)), ()))), ((@setL (I .i64) x1.2.1 (@I.nat .i64 (@I.add .i64 x1.1.2.2.1 (I.ofNat .i64 (@lenL (I .i64) x1.1.2.1)))) x1.1.2.2.2.1), ())))
          (.done (none)))))
      K0 ((x0.1.1, (x0.1.2.1, (x0.1.2.2.1, ((I.of .i64 0), ((I.of .i64 0), ()))))), (x0.2.1, ())))
      (.done (optF (none) (pontageref1_norm ((x0.2.1, ()), ())) fun y1 =>
      some ((y1.1.1, ()), ()))))
   K0 ((a, (b, ((I.of .i64 0), ()))), ((@repD (I .i64) (@I.nat .i64 (@I.add .i64 (I.ofNat .i64 (@lenL (I .i64) a)) (I.ofNat .i64 (@lenL (I .i64) b)))) (I.of .i64 0)), ())))
   (none))
  (none)

/-- pontage/pontageref1.Checked -/
noncomputable def pontageref1_Checked (x : (⟨[.pl (.sl (.int .i64))], []⟩ : Tm).D) : Option (⟨[.pl (.arr 4 (.int .u64)), .pl (.int .i64)], []⟩ : Tm).D :=
 let a : List (I .i64) := x.1.1
 optF (none) (pontageref1_Fits ((a, ()), ())) fun y0 =>
 brn (bnot y0.1.1)
  (some ((((I.of .u64 0), ((I.of .u64 0), ((I.of .u64 0), ((I.of .u64 0), ())))), ((I.of .i64 4), ())), ()))
  (optF (none) (pontageref1_ToUint256 ((a, ()), ())) fun y1 =>
  some ((y1.1.1, ((I.of .i64 0), ())), ()))

/-- pontage/pontageref1.IsZero -/
noncomputable def pontageref1_IsZero (x : (⟨[.pl (.arr 4 (.int .u64))], []⟩ : Tm).D) : Option (⟨[.pl .bool], []⟩ : Tm).D :=
 let a : (I .u64) × (I .u64) × (I .u64) × (I .u64) × Unit := x.1.1
 some (((Ty.eqb (.arr 4 (.int .u64)) a ((I.of .u64 0), ((I.of .u64 0), ((I.of .u64 0), ((I.of .u64 0), ()))))), ()), ())

end Sym

/- The given functions as plain functions, as the printer told them. -/
namespace Sym
open Go

/-- pontage/muldiv.shiftLeft -/
noncomputable def muldiv_shiftLeft (x : (⟨[.pl (.arr 4 (.int .u64)), .pl (.int .u64)], []⟩ : Tm).D) : Option (⟨[.pl (.arr 4 (.int .u64)), .pl (.int .u64)], []⟩ : Tm).D :=
 let a : (I .u64) × (I .u64) × (I .u64) × (I .u64) × Unit := x.1.1
 let b : I .u64 := x.1.2.1
 iter (none) (fun x0 =>
   brn (@I.ltb .i64 (I.of .i64 0) x0.1.2.2.1)
    (brn (@inB .i64 x0.1.2.2.1 4)
     (brn (@inB .i64 (@I.sub .i64 x0.1.2.2.1 (I.of .i64 1)) 4)
      (brn (@inB .i64 x0.1.2.2.1 4)
       (.again ((x0.1.1, (x0.1.2.1, ((@I.sub .i64 x0.1.2.2.1 (I.of .i64 1)), ()))), ((@Arr.upd (I .u64) 4 x0.2.1 (@I.nat .i64 x0.1.2.2.1) (@I.or .u64 (@I.shl .u64 .u64 (@Arr.sel (I .u64) (I.of .u64 0) 4 x0.2.1 (@I.nat .i64 x0.1.2.2.1)) (I.of .u64 1)) (@I.shr .u64 .u64 (@Arr.sel (I .u64) (I.of .u64 0) 4 x0.2.1 (@I.nat .i64 (@I.sub .i64 x0.1.2.2.1 (I.of .i64 1)))) (I.of .u64 63)))), (x0.2.2.1, ()))))
       (.done (none)))
      (.done (none)))
     (.done (none)))
    (.done (some ((((@I.or .u64 (@I.shl .u64 .u64 x0.2.1.1 (I.of .u64 1)) x0.1.1), (x0.2.1.2.1, (x0.2.1.2.2.1, (x0.2.1.2.2.2.1, ())))), (x0.1.2.1, ())), ()))))
 K0 ((b, ((@I.shr .u64 .u64 a.2.2.2.1 (I.of .u64 63)), ((I.of .i64 3), ()))), (a, (((I.of .u64 0), ((I.of .u64 0), ((I.of .u64 0), ((I.of .u64 0), ())))), ())))

/-- pontage/muldiv.subWrap -/
noncomputable def muldiv_subWrap (x : (⟨[.pl (.arr 4 (.int .u64)), .pl (.arr 4 (.int .u64))], []⟩ : Tm).D) : Option (⟨[.pl (.arr 4 (.int .u64))], []⟩ : Tm).D :=
 let a : (I .u64) × (I .u64) × (I .u64) × (I .u64) × Unit := x.1.1
 let b : (I .u64) × (I .u64) × (I .u64) × (I .u64) × Unit := x.1.2.1
 iter (none) (fun x0 =>
   brn (@I.ltb .i64 x0.1.2.1 (I.of .i64 4))
    (brn (@inB .i64 x0.1.2.1 4)
     (brn (@inB .i64 x0.1.2.1 4)
      (optF (.done (none)) (sub64F (((@Arr.sel (I .u64) (I.of .u64 0) 4 x0.2.1 (@I.nat .i64 x0.1.2.1)), ((@Arr.sel (I .u64) (I.of .u64 0) 4 x0.2.2.1 (@I.nat .i64 x0.1.2.1)), (x0.1.1, ()))), ())) fun y1 =>
      brn (@inB .i64 x0.1.2.1 4)
       (.again ((y1.1.2.1, ((@I.add .i64 x0.1.2.1 (I.of .i64 1)), ())), ((@Arr.upd (I .u64) 4 x0.2.1 (@I.nat .i64 x0.1.2.1) y1.1.1), (x0.2.2.1, (x0.2.2.2.1, ())))))
       (.done (none)))
      (.done (none)))
     (.done (none)))
    (.done (some ((x0.2.1, ()), ()))))
 K0 (((I.of .u64 0), ((I.of .i64 0), ())), (a, (b, (((I.of .u64 0), ((I.of .u64 0), ((I.of .u64 0), ((I.of .u64 0), ())))), ()))))

/-- pontage/muldiv.Div512 -/
noncomputable def muldiv_Div512 (x : (⟨[.pl (.arr 4 (.int .u64)), .pl (.arr 4 (.int .u64)), .pl (.arr 4 (.int .u64))], []⟩ : Tm).D) : Option (⟨[.pl (.arr 4 (.int .u64)), .pl (.arr 4 (.int .u64)), .pl (.int .i64)], []⟩ : Tm).D :=
 let a : (I .u64) × (I .u64) × (I .u64) × (I .u64) × Unit := x.1.1
 let b : (I .u64) × (I .u64) × (I .u64) × (I .u64) × Unit := x.1.2.1
 let c : (I .u64) × (I .u64) × (I .u64) × (I .u64) × Unit := x.1.2.2.1
 brn (Ty.eqb (.arr 4 (.int .u64)) c ((I.of .u64 0), ((I.of .u64 0), ((I.of .u64 0), ((I.of .u64 0), ())))))
  (some ((((I.of .u64 0), ((I.of .u64 0), ((I.of .u64 0), ((I.of .u64 0), ())))), (((I.of .u64 0), ((I.of .u64 0), ((I.of .u64 0), ((I.of .u64 0), ())))), ((I.of .i64 5), ()))), ()))
  (optF (none) (uint256_Cmp ((b, (c, ())), ())) fun y0 =>
  brn (@I.leb .i64 (I.of .i64 0) y0.1.1)
   (some ((((I.of .u64 0), ((I.of .u64 0), ((I.of .u64 0), ((I.of .u64 0), ())))), (((I.of .u64 0), ((I.of .u64 0), ((I.of .u64 0), ((I.of .u64 0), ())))), ((I.of .i64 4), ()))), ()))
   (iter (none) (fun x1 =>
     brn (@I.leb .i64 (I.of .i64 0) x1.1.1)
      (brn (@inB .i64 (@I.quo .i64 x1.1.1 (I.of .i64 64)) 4)
       (brn (@I.nn .i64 (@I.rem .i64 x1.1.1 (I.of .i64 64)))
        (optF (.done (none)) (muldiv_shiftLeft ((x1.2.2.2.2.1, ((@I.and .u64 (@I.shr .u64 .i64 (@Arr.sel (I .u64) (I.of .u64 0) 4 x1.2.1 (@I.nat .i64 (@I.quo .i64 x1.1.1 (I.of .i64 64)))) (@I.rem .i64 x1.1.1 (I.of .i64 64))) (I.of .u64 1)), ())), ())) fun y2 =>
        brn (@I.eqb .u64 y2.1.2.1 (I.of .u64 1))
         (optF (.done (none)) (muldiv_subWrap ((y2.1.1, (x1.2.2.1, ())), ())) fun y3 =>
         brn (@inB .i64 (@I.quo .i64 x1.1.1 (I.of .i64 64)) 4)
          (brn (@I.nn .i64 (@I.rem .i64 x1.1.1 (I.of .i64 64)))
           (brn (@inB .i64 (@I.quo .i64 x1.1.1 (I.of .i64 64)) 4)
            (.again (((@I.sub .i64 x1.1.1 (I.of .i64 1)), ()), (x1.2.1, (x1.2.2.1, ((@Arr.upd (I .u64) 4 x1.2.2.2.1 (@I.nat .i64 (@I.quo .i64 x1.1.1 (I.of .i64 64))) (@I.or .u64 (@Arr.sel (I .u64) (I.of .u64 0) 4 x1.2.2.2.1 (@I.nat .i64 (@I.quo .i64 x1.1.1 (I.of .i64 64)))) (@I.shl .u64 .i64 (I.of .u64 1) (@I.rem .i64 x1.1.1 (I.of .i64 64))))), (y3.1.1, ()))))))
            (.done (none)))
           (.done (none)))
          (.done (none)))
         (optF (.done (none)) (uint256_Cmp ((y2.1.1, (x1.2.2.1, ())), ())) fun y3 =>
         brn (@I.leb .i64 (I.of .i64 0) y3.1.1)
          (optF (.done (none)) (muldiv_subWrap ((y2.1.1, (x1.2.2.1, ())), ())) fun y4 =>
          brn (@inB .i64 (@I.quo .i64 x1.1.1 (I.of .i64 64)) 4)
           (brn (@I.nn .i64 (@I.rem .i64 x1.1.1 (I.of .i64 64)))
            (brn (@inB .i64 (@I.quo .i64 x1.1.1 (I.of .i64 64)) 4)
             (.again (((@I.sub .i64 x1.1.1 (I.of .i64 1)), ()), (x1.2.1, (x1.2.2.1, ((@Arr.upd (I .u64) 4 x1.2.2.2.1 (@I.nat .i64 (@I.quo .i64 x1.1.1 (I.of .i64 64))) (@I.or .u64 (@Arr.sel (I .u64) (I.of .u64 0) 4 x1.2.2.2.1 (@I.nat .i64 (@I.quo .i64 x1.1.1 (I.of .i64 64)))) (@I.shl .u64 .i64 (I.of .u64 1) (@I.rem .i64 x1.1.1 (I.of .i64 64))))), (y4.1.1, ()))))))
             (.done (none)))
            (.done (none)))
           (.done (none)))
          (.again (((@I.sub .i64 x1.1.1 (I.of .i64 1)), ()), (x1.2.1, (x1.2.2.1, (x1.2.2.2.1, (y2.1.1, ()))))))))
        (.done (none)))
       (.done (none)))
      (.done (some ((x1.2.2.2.1, (x1.2.2.2.2.1, ((I.of .i64 0), ()))), ()))))
   K0 (((I.of .i64 255), ()), (a, (c, (((I.of .u64 0), ((I.of .u64 0), ((I.of .u64 0), ((I.of .u64 0), ())))), (b, ())))))))

/-- pontage/muldiv.DivMod -/
noncomputable def muldiv_DivMod (x : (⟨[.pl (.arr 4 (.int .u64)), .pl (.arr 4 (.int .u64))], []⟩ : Tm).D) : Option (⟨[.pl (.arr 4 (.int .u64)), .pl (.arr 4 (.int .u64)), .pl (.int .i64)], []⟩ : Tm).D :=
 let a : (I .u64) × (I .u64) × (I .u64) × (I .u64) × Unit := x.1.1
 let b : (I .u64) × (I .u64) × (I .u64) × (I .u64) × Unit := x.1.2.1
 optF (none) (muldiv_Div512 ((a, (((I.of .u64 0), ((I.of .u64 0), ((I.of .u64 0), ((I.of .u64 0), ())))), (b, ()))), ())) fun y0 =>
 some ((y0.1.1, (y0.1.2.1, (y0.1.2.2.1, ()))), ())

/-- math/bits.Mul64 -/
noncomputable def math_bits_Mul64 (x : (⟨[.pl (.int .u64), .pl (.int .u64)], []⟩ : Tm).D) : Option (⟨[.pl (.int .u64), .pl (.int .u64)], []⟩ : Tm).D :=
 let a : I .u64 := x.1.1
 let b : I .u64 := x.1.2.1
 some (((@I.add .u64 (@I.add .u64 (@I.mul .u64 (@I.shr .u64 .u64 a (I.of .u64 32)) (@I.shr .u64 .u64 b (I.of .u64 32))) (@I.shr .u64 .u64 (@I.add .u64 (@I.mul .u64 (@I.shr .u64 .u64 a (I.of .u64 32)) (@I.and .u64 b (I.of .u64 4294967295))) (@I.shr .u64 .u64 (@I.mul .u64 (@I.and .u64 a (I.of .u64 4294967295)) (@I.and .u64 b (I.of .u64 4294967295))) (I.of .u64 32))) (I.of .u64 32))) (@I.shr .u64 .u64 (@I.add .u64 (@I.and .u64 (@I.add .u64 (@I.mul .u64 (@I.shr .u64 .u64 a (I.of .u64 32)) (@I.and .u64 b (I.of .u64 4294967295))) (@I.shr .u64 .u64 (@I.mul .u64 (@I.and .u64 a (I.of .u64 4294967295)) (@I.and .u64 b (I.of .u64 4294967295))) (I.of .u64 32))) (I.of .u64 4294967295)) (@I.mul .u64 (@I.and .u64 a (I.of .u64 4294967295)) (@I.shr .u64 .u64 b (I.of .u64 32)))) (I.of .u64 32))), ((@I.mul .u64 a b), ())), ())

/-- pontage/uint256.Mul -/
noncomputable def uint256_Mul (x : (⟨[.pl (.arr 4 (.int .u64)), .pl (.arr 4 (.int .u64))], []⟩ : Tm).D) : Option (⟨[.pl (.arr 4 (.int .u64)), .pl (.int .i64)], []⟩ : Tm).D :=
 let a : (I .u64) × (I .u64) × (I .u64) × (I .u64) × Unit := x.1.1
 let b : (I .u64) × (I .u64) × (I .u64) × (I .u64) × Unit := x.1.2.1
 iter (none) (fun x0 =>
   brn (@I.ltb .i64 x0.1.1 (I.of .i64 4))
    (iter (.done (none)) (fun x1 =>
      brn (@I.ltb .i64 x1.1.2.2.2.1 (I.of .i64 4))
       (brn (@inB .i64 x1.1.1 4)
        (brn (@inB .i64 x1.1.2.2.2.1 4)
         (optF (.done (.done (none))) (math_bits_Mul64 (((@Arr.sel (I .u64) (I.of .u64 0) 4 x1.2.1 (@I.nat .i64 x1.1.1)), ((@Arr.sel (I .u64) (I.of .u64 0) 4 x1.2.2.1 (@I.nat .i64 x1.1.2.2.2.1)), ())), ())) fun y2 =>
         brn (@I.ltb .i64 (I.of .i64 3) (@I.add .i64 x1.1.1 x1.1.2.2.2.1))
          (brn (@I.neb .u64 (@I.or .u64 y2.1.1 y2.1.2.1) (I.of .u64 0))
           (.done (.done (some ((((I.of .u64 0), ((I.of .u64 0), ((I.of .u64 0), ((I.of .u64 0), ())))), ((I.of .i64 4), ())), ()))))
           (.again ((x1.1.1, (x1.1.2.1, (x1.1.2.2.1, ((@I.add .i64 x1.1.2.2.2.1 (I.of .i64 1)), ())))), (x1.2.1, (x1.2.2.1, (x1.2.2.2.1, (x1.2.2.2.2.1, ())))))))
          (optF (.done (.done (none))) (add64F ((y2.1.2.1, (x1.1.2.1, ((I.of .u64 0), ()))), ())) fun y3 =>
          brn (@inB .i64 (@I.add .i64 x1.1.1 x1.1.2.2.2.1) 4)
           (optF (.done (.done (none))) (add64F (((@Arr.sel (I .u64) (I.of .u64 0) 4 x1.2.2.2.2.1 (@I.nat .i64 (@I.add .i64 x1.1.1 x1.1.2.2.2.1))), (y3.1.1, ((I.of .u64 0), ()))), ())) fun y4 =>
           brn (@inB .i64 (@I.add .i64 x1.1.1 x1.1.2.2.2.1) 4)
            (.again ((x1.1.1, ((@I.add .u64 (@I.add .u64 y2.1.1 y3.1.2.1) y4.1.2.1), (x1.1.2.2.1, ((@I.add .i64 x1.1.2.2.2.1 (I.of .i64 1)), ())))), (x1.2.1, (x1.2.2.1, (x1.2.2.2.1, ((@Arr.upd (I .u64) 4 x1.2.2.2.2.1 (@I.nat .i64 (@I.add .i64 x1.1.1 x1.1.2.2.2.1)) y4.1.1), ()))))))
            (.done (.done (none))))
           (.done (.done (none)))))
         (.done (.done (none))))
        (.done (.done (none))))
       (.done (brn (@I.neb .u64 x1.1.2.1 (I.of .u64 0))
        (.done (some ((((I.of .u64 0), ((I.of .u64 0), ((I.of .u64 0), ((I.of .u64 0), ())))), ((I.of .i64 4), ())), ())))
        (.again (((@I.add .i64 x1.1.2.2.1 (I.of .i64 1)), ()), (x1.2.1, (x1.2.2.1, (x1.2.2.2.1, (x1.2.2.2.2.1, ())))))))))
    K0 ((x0.1.1, ((I.of .u64 0), (x0.1.1, ((I.of .i64 0), ())))), (x0.2.1, (x0.2.2.1, (x0.2.2.2.1, (x0.2.2.2.2.1, ()))))))
    (.done (some ((x0.2.2.2.2.1, ((I.of .i64 0), ())), ()))))
 K0 (((I.of .i64 0), ()), (a, (b, (((I.of .u64 0), ((I.of .u64 0), ((I.of .u64 0), ((I.of .u64 0), ())))), (((I.of .u64 0), ((I.of .u64 0), ((I.of .u64 0), ((I.of .u64 0), ())))), ())))))

/-- pontage/uint256.FromUint64 -/
noncomputable def uint256_FromUint64 (x : (⟨[.pl (.int .u64)], []⟩ : Tm).D) : Option (⟨[.pl (.arr 4 (.int .u64))], []⟩ : Tm).D :=
 let a : I .u64 := x.1.1
 some (((a, ((I.of .u64 0), ((I.of .u64 0), ((I.of .u64 0), ())))), ()), ())

/-- pontage/uint256.SaturatingSub -/
noncomputable def uint256_SaturatingSub (x : (⟨[.pl (.arr 4 (.int .u64)), .pl (.arr 4 (.int .u64))], []⟩ : Tm).D) : Option (⟨[.pl (.arr 4 (.int .u64))], []⟩ : Tm).D :=
 let a : (I .u64) × (I .u64) × (I .u64) × (I .u64) × Unit := x.1.1
 let b : (I .u64) × (I .u64) × (I .u64) × (I .u64) × Unit := x.1.2.1
 optF (none) (uint256_Sub ((a, (b, ())), ())) fun y0 =>
 some ((y0.1.1, ()), ())

end Sym

/- The given functions as plain functions, as the printer told them. -/
namespace Sym
open Go

/-- pontage/int256.New -/
noncomputable def int256_New (x : (⟨[.pl .bool, .pl (.arr 4 (.int .u64))], []⟩ : Tm).D) : Option (⟨[.pl (.cons .bool (.cons (.arr 4 (.int .u64)) .nil))], []⟩ : Tm).D :=
 let a : Bool := x.1.1
 let b : (I .u64) × (I .u64) × (I .u64) × (I .u64) × Unit := x.1.2.1
 brn a
  (some ((((bnot (Ty.eqb (.arr 4 (.int .u64)) b ((I.of .u64 0), ((I.of .u64 0), ((I.of .u64 0), ((I.of .u64 0), ())))))), (b, ())), ()), ()))
  (some (((false, (b, ())), ()), ()))

/-- pontage/int256.Valid -/
noncomputable def int256_Valid (x : (⟨[.pl (.cons .bool (.cons (.arr 4 (.int .u64)) .nil))], []⟩ : Tm).D) : Option (⟨[.pl .bool], []⟩ : Tm).D :=
 let a : (Bool) × ((I .u64) × (I .u64) × (I .u64) × (I .u64) × Unit) × Unit := x.1.1
 brn (bnot a.1)
  (some ((true, ()), ()))
  (some (((bnot (Ty.eqb (.arr 4 (.int .u64)) a.2.1 ((I.of .u64 0), ((I.of .u64 0), ((I.of .u64 0), ((I.of .u64 0), ())))))), ()), ()))

/-- pontage/int256.DivFloor -/
noncomputable def int256_DivFloor (x : (⟨[.pl (.cons .bool (.cons (.arr 4 (.int .u64)) .nil)), .pl (.arr 4 (.int .u64))], []⟩ : Tm).D) : Option (⟨[.pl (.cons .bool (.cons (.arr 4 (.int .u64)) .nil)), .pl (.int .i64)], []⟩ : Tm).D :=
 let a : (Bool) × ((I .u64) × (I .u64) × (I .u64) × (I .u64) × Unit) × Unit := x.1.1
 let b : (I .u64) × (I .u64) × (I .u64) × (I .u64) × Unit := x.1.2.1
 optF (none) (int256_Valid ((a, ()), ())) fun y0 =>
 brn (bnot y0.1.1)
  (some (((false, (((I.of .u64 0), ((I.of .u64 0), ((I.of .u64 0), ((I.of .u64 0), ())))), ())), ((I.of .i64 2), ())), ()))
  (optF (none) (muldiv_DivMod ((a.2.1, (b, ())), ())) fun y1 =>
  brn (@I.neb .i64 y1.1.2.2.1 (I.of .i64 0))
   (some (((false, (((I.of .u64 0), ((I.of .u64 0), ((I.of .u64 0), ((I.of .u64 0), ())))), ())), (y1.1.2.2.1, ())), ()))
   (jn (fun (x2 : ((Bool × Unit) × ((Bool × (((I .u64) × ((I .u64) × ((I .u64) × ((I .u64) × Unit)))) × Unit)) × ((Bool × (((I .u64) × ((I .u64) × ((I .u64) × ((I .u64) × Unit)))) × Unit)) × (((I .u64) × ((I .u64) × ((I .u64) × ((I .u64) × Unit)))) × Unit))))) =>
     brn x2.1.1
      (optF (none) (uint256_FromUint64 (((I.of .u64 1), ()), ())) fun y3 =>
      optF (none) (uint256_Add ((x2.2.2.2.1, (y3.1.1, ())), ())) fun y4 =>
      optF (none) (int256_New ((x2.2.1.1, (y4.1.1, ())), ())) fun y5 =>
      some ((y5.1.1, ((I.of .i64 0), ())), ()))
      (optF (none) (int256_New ((x2.2.1.1, (x2.2.2.2.1, ())), ())) fun y3 =>
      some ((y3.1.1, ((I.of .i64 0), ())), ()))) fun j2 =>
   brn a.1
    (j2 (((bnot (Ty.eqb (.arr 4 (.int .u64)) y1.1.2.1 ((I.of .u64 0), ((I.of .u64 0), ((I.of .u64 0), ((I.of .u64 0), ())))))), ()), (a, ((false, (((I.of .u64 0), ((I.of .u64 0), ((I.of .u64 0), ((I.of .u64 0), ())))), ())), (y1.1.1, ())))))
    (j2 ((false, ()), (a, ((false, (((I.of .u64 0), ((I.of .u64 0), ((I.of .u64 0), ((I.of .u64 0), ())))), ())), (y1.1.1, ())))))))

/-- pontage/pontageref3.Valid -/
noncomputable def pontageref3_Valid (x : (⟨[.pl (.cons .bool (.cons (.arr 4 (.int .u64)) .nil))], []⟩ : Tm).D) : Option (⟨[.pl .bool], []⟩ : Tm).D :=
 let a : (Bool) × ((I .u64) × (I .u64) × (I .u64) × (I .u64) × Unit) × Unit := x.1.1
 brn a.1
  (optF (none) (pontageref1_IsZero ((a.2.1, ()), ())) fun y0 =>
  some (((bnot y0.1.1), ()), ()))
  (some ((true, ()), ()))

/-- pontage/pontageref3.Checked -/
noncomputable def pontageref3_Checked (x : (⟨[.pl (.cons .bool (.cons (.sl (.int .i64)) .nil))], []⟩ : Tm).D) : Option (⟨[.pl (.cons .bool (.cons (.arr 4 (.int .u64)) .nil)), .pl (.int .i64)], []⟩ : Tm).D :=
 let a : (Bool) × (List (I .i64)) × Unit := x.1.1
 optF (none) (pontageref1_Checked ((a.2.1, ()), ())) fun y0 =>
 brn (@I.neb .i64 y0.1.2.1 (I.of .i64 0))
  (some (((false, (((I.of .u64 0), ((I.of .u64 0), ((I.of .u64 0), ((I.of .u64 0), ())))), ())), (y0.1.2.1, ())), ()))
  (some (((a.1, (y0.1.1, ())), ((I.of .i64 0), ())), ()))

/-- pontage/pontageref3.sign -/
noncomputable def pontageref3_sign (x : (⟨[.pl .bool, .pl (.sl (.int .i64))], []⟩ : Tm).D) : Option (⟨[.pl (.cons .bool (.cons (.sl (.int .i64)) .nil))], []⟩ : Tm).D :=
 let a : Bool := x.1.1
 let b : List (I .i64) := x.1.2.1
 brn a
  (some ((((@I.ltb .i64 (I.of .i64 0) (I.ofNat .i64 (@lenL (I .i64) b))), (b, ())), ()), ()))
  (some (((false, (b, ())), ()), ()))

/-- pontage/pontageref3.DivFloor -/
noncomputable def pontageref3_DivFloor (x : (⟨[.pl (.cons .bool (.cons (.sl (.int .i64)) .nil)), .pl (.sl (.int .i64))], []⟩ : Tm).D) : Option (⟨[.pl (.cons .bool (.cons (.sl (.int .i64)) .nil))], []⟩ : Tm).D :=
 let a : (Bool) × (List (I .i64)) × Unit := x.1.1
 let b : List (I .i64) := x.1.2.1
 optF (none) (pontageref1_Div ((a.2.1, (b, ())), ())) fun y0 =>
 jn (fun (x1 : (((List (I .i64)) × (Bool × Unit)) × ((Bool × ((List (I .i64)) × Unit)) × ((Bool × ((List (I .i64)) × Unit)) × Unit)))) =>
   brn x1.1.2.1
    (optF (none) (pontageref1_FromUint64 (((I.of .u64 1), ()), ())) fun y2 =>
    optF (none) (pontageref1_Add ((x1.1.1, (y2.1.1, ())), ())) fun y3 =>
    optF (none) (pontageref3_sign ((x1.2.1.1, (y3.1.1, ())), ())) fun y4 =>
    some ((y4.1.1, ()), ()))
    (optF (none) (pontageref3_sign ((x1.2.1.1, (x1.1.1, ())), ())) fun y2 =>
    some ((y2.1.1, ()), ()))) fun j1 =>
 brn a.1
  (j1 ((y0.1.1, ((@I.ltb .i64 (I.of .i64 0) (I.ofNat .i64 (@lenL (I .i64) y0.1.2.1))), ())), (a, ((false, ([], ())), ()))))
  (j1 ((y0.1.1, (false, ())), (a, ((false, ([], ())), ()))))

/-- pontage/pontageref3.FromInt256 -/
noncomputable def pontageref3_FromInt256 (x : (⟨[.pl (.cons .bool (.cons (.arr 4 (.int .u64)) .nil))], []⟩ : Tm).D) : Option (⟨[.pl (.cons .bool (.cons (.sl (.int .i64)) .nil))], []⟩ : Tm).D :=
 let a : (Bool) × ((I .u64) × (I .u64) × (I .u64) × (I .u64) × Unit) × Unit := x.1.1
 optF (none) (pontageref1_FromUint256 ((a.2.1, ()), ())) fun y0 =>
 optF (none) (pontageref3_sign ((a.1, (y0.1.1, ())), ())) fun y1 =>
 some ((y1.1.1, ()), ())

/-- pontage/pontageref3.DivFloor256 -/
noncomputable def pontageref3_DivFloor256 (x : (⟨[.pl (.cons .bool (.cons (.arr 4 (.int .u64)) .nil)), .pl (.arr 4 (.int .u64))], []⟩ : Tm).D) : Option (⟨[.pl (.cons .bool (.cons (.arr 4 (.int .u64)) .nil)), .pl (.int .i64)], []⟩ : Tm).D :=
 let a : (Bool) × ((I .u64) × (I .u64) × (I .u64) × (I .u64) × Unit) × Unit := x.1.1
 let b : (I .u64) × (I .u64) × (I .u64) × (I .u64) × Unit := x.1.2.1
 optF (none) (pontageref3_Valid ((a, ()), ())) fun y0 =>
 brn (bnot y0.1.1)
  (some (((false, (((I.of .u64 0), ((I.of .u64 0), ((I.of .u64 0), ((I.of .u64 0), ())))), ())), ((I.of .i64 2), ())), ()))
  (optF (none) (pontageref1_IsZero ((b, ()), ())) fun y1 =>
  brn y1.1.1
   (some (((false, (((I.of .u64 0), ((I.of .u64 0), ((I.of .u64 0), ((I.of .u64 0), ())))), ())), ((I.of .i64 5), ())), ()))
   (optF (none) (pontageref3_FromInt256 ((a, ()), ())) fun y2 =>
   optF (none) (pontageref1_FromUint256 ((b, ()), ())) fun y3 =>
   optF (none) (pontageref3_DivFloor ((y2.1.1, (y3.1.1, ())), ())) fun y4 =>
   optF (none) (pontageref3_Checked ((y4.1.1, ()), ())) fun y5 =>
   some ((y5.1.1, (y5.1.2.1, ())), ())))

/-- pontage/int256.AddClamped -/
noncomputable def int256_AddClamped (x : (⟨[.pl (.arr 4 (.int .u64)), .pl (.cons .bool (.cons (.arr 4 (.int .u64)) .nil))], []⟩ : Tm).D) : Option (⟨[.pl (.arr 4 (.int .u64)), .pl (.int .i64)], []⟩ : Tm).D :=
 let a : (I .u64) × (I .u64) × (I .u64) × (I .u64) × Unit := x.1.1
 let b : (Bool) × ((I .u64) × (I .u64) × (I .u64) × (I .u64) × Unit) × Unit := x.1.2.1
 optF (none) (int256_Valid ((b, ()), ())) fun y0 =>
 brn (bnot y0.1.1)
  (some ((((I.of .u64 0), ((I.of .u64 0), ((I.of .u64 0), ((I.of .u64 0), ())))), ((I.of .i64 2), ())), ()))
  (brn b.1
   (optF (none) (uint256_SaturatingSub ((a, (b.2.1, ())), ())) fun y1 =>
   some ((y1.1.1, ((I.of .i64 0), ())), ()))
   (optF (none) (uint256_Add ((a, (b.2.1, ())), ())) fun y1 =>
   some ((y1.1.1, (y1.1.2.1, ())), ())))

/-- pontage/int256.FromInt64 -/
noncomputable def int256_FromInt64 (x : (⟨[.pl (.int .i64)], []⟩ : Tm).D) : Option (⟨[.pl (.cons .bool (.cons (.arr 4 (.int .u64)) .nil))], []⟩ : Tm).D :=
 let a : I .i64 := x.1.1
 brn (@I.ltb .i64 a (I.of .i64 0))
  (optF (none) (uint256_FromUint64 (((@I.add .u64 (I.conv (k := .i64) .u64 (@I.neg .i64 (@I.add .i64 a (I.of .i64 1)))) (I.of .u64 1)), ()), ())) fun y0 =>
  some (((true, (y0.1.1, ())), ()), ()))
  (optF (none) (uint256_FromUint64 (((I.conv (k := .i64) .u64 a), ()), ())) fun y0 =>
  some (((false, (y0.1.1, ())), ()), ()))

/-- pontage/pontagelaw3.awake -/
noncomputable def pontagelaw3_awake (x : (⟨[], []⟩ : Tm).D) : Option (⟨[.pl .bool], []⟩ : Tm).D :=
 optF (none) (int256_FromInt64 (((I.of .i64 (-7)), ()), ())) fun y0 =>
 optF (none) (int256_DivFloor ((y0.1.1, (((I.of .u64 2), ((I.of .u64 0), ((I.of .u64 0), ((I.of .u64 0), ())))), ())), ())) fun y1 =>
 optF (none) (int256_FromInt64 (((I.of .i64 (-5)), ()), ())) fun y2 =>
 optF (none) (int256_AddClamped ((((I.of .u64 3), ((I.of .u64 0), ((I.of .u64 0), ((I.of .u64 0), ())))), (y2.1.1, ())), ())) fun y3 =>
 optF (none) (int256_FromInt64 (((I.of .i64 (-4)), ()), ())) fun y4 =>
 brn (Ty.eqb (.cons .bool (.cons (.arr 4 (.int .u64)) .nil)) y1.1.1 y4.1.1)
  (brn (@I.eqb .i64 y1.1.2.1 (I.of .i64 0))
   (brn (Ty.eqb (.arr 4 (.int .u64)) y3.1.1 ((I.of .u64 0), ((I.of .u64 0), ((I.of .u64 0), ((I.of .u64 0), ())))))
    (brn (@I.eqb .i64 y3.1.2.1 (I.of .i64 0))
     (optF (none) (int256_Valid (((true, (((I.of .u64 0), ((I.of .u64 0), ((I.of .u64 0), ((I.of .u64 0), ())))), ())), ()), ())) fun y5 =>
     brn (bnot y5.1.1)
      (optF (none) (int256_FromInt64 (((I.of .i64 (-4)), ()), ())) fun y6 =>
      some (((Ty.eqb (.cons .bool (.cons (.arr 4 (.int .u64)) .nil)) y6.1.1 (true, (((I.of .u64 4), ((I.of .u64 0), ((I.of .u64 0), ((I.of .u64 0), ())))), ()))), ()), ()))
      (some ((false, ()), ())))
     (some ((false, ()), ())))
    (some ((false, ()), ())))
   (some ((false, ()), ())))
  (some ((false, ()), ()))

/-- pontage/pontagelaw3.Int256DivFloor -/
noncomputable def pontagelaw3_Int256DivFloor (x : (⟨[.pl (.cons .bool (.cons (.arr 4 (.int .u64)) .nil)), .pl (.arr 4 (.int .u64)), .pl (.int .u64)], []⟩ : Tm).D) : Option (⟨[.pl .bool], []⟩ : Tm).D :=
 let a : (Bool) × ((I .u64) × (I .u64) × (I .u64) × (I .u64) × Unit) × Unit := x.1.1
 let b : (I .u64) × (I .u64) × (I .u64) × (I .u64) × Unit := x.1.2.1
 let c : I .u64 := x.1.2.2.1
 optF (none) (int256_DivFloor ((a, (b, ())), ())) fun y0 =>
 optF (none) (pontageref3_DivFloor256 ((a, (b, ())), ())) fun y1 =>
 optF (none) (int256_DivFloor ((a, ((c, ((I.of .u64 0), ((I.of .u64 0), ((I.of .u64 0), ())))), ())), ())) fun y2 =>
 optF (none) (pontageref3_DivFloor256 ((a, ((c, ((I.of .u64 0), ((I.of .u64 0), ((I.of .u64 0), ())))), ())), ())) fun y3 =>
 brn (Ty.eqb (.cons .bool (.cons (.arr 4 (.int .u64)) .nil)) y0.1.1 y1.1.1)
  (brn (@I.eqb .i64 y0.1.2.1 y1.1.2.1)
   (brn (Ty.eqb (.cons .bool (.cons (.arr 4 (.int .u64)) .nil)) y2.1.1 y3.1.1)
    (brn (@I.eqb .i64 y2.1.2.1 y3.1.2.1)
     (optF (none) (pontagelaw3_awake ((), ())) fun y4 =>
     some ((y4.1.1, ()), ()))
     (some ((false, ()), ())))
    (some ((false, ()), ())))
   (some ((false, ()), ())))
  (some ((false, ()), ()))

/-- pontage/pontageref3.Add -/
noncomputable def pontageref3_Add (x : (⟨[.pl (.cons .bool (.cons (.sl (.int .i64)) .nil)), .pl (.cons .bool (.cons (.sl (.int .i64)) .nil))], []⟩ : Tm).D) : Option (⟨[.pl (.cons .bool (.cons (.sl (.int .i64)) .nil))], []⟩ : Tm).D :=
 let a : (Bool) × (List (I .i64)) × Unit := x.1.1
 let b : (Bool) × (List (I .i64)) × Unit := x.1.2.1
 brn (Ty.eqb .bool a.1 b.1)
  (optF (none) (pontageref1_Add ((a.2.1, (b.2.1, ())), ())) fun y0 =>
  optF (none) (pontageref3_sign ((a.1, (y0.1.1, ())), ())) fun y1 =>
  some ((y1.1.1, ()), ()))
  (optF (none) (pontageref1_Cmp ((a.2.1, (b.2.1, ())), ())) fun y0 =>
  brn (@I.leb .i64 (I.of .i64 0) y0.1.1)
   (optF (none) (pontageref1_Sub ((a.2.1, (b.2.1, ())), ())) fun y1 =>
   optF (none) (pontageref3_sign ((a.1, (y1.1.1, ())), ())) fun y2 =>
   some ((y2.1.1, ()), ()))
   (optF (none) (pontageref1_Sub ((b.2.1, (a.2.1, ())), ())) fun y1 =>
   optF (none) (pontageref3_sign ((b.1, (y1.1.1, ())), ())) fun y2 =>
   some ((y2.1.1, ()), ())))

/-- pontage/pontageref3.AddClamped -/
noncomputable def pontageref3_AddClamped (x : (⟨[.pl (.arr 4 (.int .u64)), .pl (.cons .bool (.cons (.arr 4 (.int .u64)) .nil))], []⟩ : Tm).D) : Option (⟨[.pl (.arr 4 (.int .u64)), .pl (.int .i64)], []⟩ : Tm).D :=
 let a : (I .u64) × (I .u64) × (I .u64) × (I .u64) × Unit := x.1.1
 let b : (Bool) × ((I .u64) × (I .u64) × (I .u64) × (I .u64) × Unit) × Unit := x.1.2.1
 optF (none) (pontageref3_Valid ((b, ()), ())) fun y0 =>
 brn (bnot y0.1.1)
  (some ((((I.of .u64 0), ((I.of .u64 0), ((I.of .u64 0), ((I.of .u64 0), ())))), ((I.of .i64 2), ())), ()))
  (optF (none) (pontageref1_FromUint256 ((a, ()), ())) fun y1 =>
  optF (none) (pontageref3_sign ((false, (y1.1.1, ())), ())) fun y2 =>
  optF (none) (pontageref3_FromInt256 ((b, ()), ())) fun y3 =>
  optF (none) (pontageref3_Add ((y2.1.1, (y3.1.1, ())), ())) fun y4 =>
  brn y4.1.1.1
   (some ((((I.of .u64 0), ((I.of .u64 0), ((I.of .u64 0), ((I.of .u64 0), ())))), ((I.of .i64 0), ())), ()))
   (optF (none) (pontageref1_Checked ((y4.1.1.2.1, ()), ())) fun y5 =>
   some ((y5.1.1, (y5.1.2.1, ())), ())))

/-- pontage/int256.Diff -/
noncomputable def int256_Diff (x : (⟨[.pl (.arr 4 (.int .u64)), .pl (.arr 4 (.int .u64))], []⟩ : Tm).D) : Option (⟨[.pl (.cons .bool (.cons (.arr 4 (.int .u64)) .nil))], []⟩ : Tm).D :=
 let a : (I .u64) × (I .u64) × (I .u64) × (I .u64) × Unit := x.1.1
 let b : (I .u64) × (I .u64) × (I .u64) × (I .u64) × Unit := x.1.2.1
 optF (none) (uint256_Cmp ((a, (b, ())), ())) fun y0 =>
 brn (@I.leb .i64 (I.of .i64 0) y0.1.1)
  (optF (none) (uint256_SaturatingSub ((a, (b, ())), ())) fun y1 =>
  optF (none) (int256_New ((false, (y1.1.1, ())), ())) fun y2 =>
  some ((y2.1.1, ()), ()))
  (optF (none) (uint256_SaturatingSub ((b, (a, ())), ())) fun y1 =>
  optF (none) (int256_New ((true, (y1.1.1, ())), ())) fun y2 =>
  some ((y2.1.1, ()), ()))

/-- pontage/pontageref3.Diff -/
noncomputable def pontageref3_Diff (x : (⟨[.pl (.arr 4 (.int .u64)), .pl (.arr 4 (.int .u64))], []⟩ : Tm).D) : Option (⟨[.pl (.cons .bool (.cons (.arr 4 (.int .u64)) .nil))], []⟩ : Tm).D :=
 let a : (I .u64) × (I .u64) × (I .u64) × (I .u64) × Unit := x.1.1
 let b : (I .u64) × (I .u64) × (I .u64) × (I .u64) × Unit := x.1.2.1
 optF (none) (pontageref1_FromUint256 ((a, ()), ())) fun y0 =>
 optF (none) (pontageref3_sign ((false, (y0.1.1, ())), ())) fun y1 =>
 optF (none) (pontageref1_FromUint256 ((b, ()), ())) fun y2 =>
 optF (none) (pontageref3_sign ((true, (y2.1.1, ())), ())) fun y3 =>
 optF (none) (pontageref3_Add ((y1.1.1, (y3.1.1, ())), ())) fun y4 =>
 optF (none) (pontageref3_Checked ((y4.1.1, ()), ())) fun y5 =>
 some ((y5.1.1, ()), ())

/-- pontage/pontagelaw3.Int256DiffAddClamped -/
noncomputable def pontagelaw3_Int256DiffAddClamped (x : (⟨[.pl (.arr 4 (.int .u64)), .pl (.arr 4 (.int .u64)), .pl (.cons .bool (.cons (.arr 4 (.int .u64)) .nil))], []⟩ : Tm).D) : Option (⟨[.pl .bool], []⟩ : Tm).D :=
 let a : (I .u64) × (I .u64) × (I .u64) × (I .u64) × Unit := x.1.1
 let b : (I .u64) × (I .u64) × (I .u64) × (I .u64) × Unit := x.1.2.1
 let c : (Bool) × ((I .u64) × (I .u64) × (I .u64) × (I .u64) × Unit) × Unit := x.1.2.2.1
 optF (none) (int256_AddClamped ((a, (c, ())), ())) fun y0 =>
 optF (none) (pontageref3_AddClamped ((a, (c, ())), ())) fun y1 =>
 optF (none) (int256_Diff ((a, (b, ())), ())) fun y2 =>
 optF (none) (pontageref3_Diff ((a, (b, ())), ())) fun y3 =>
 brn (Ty.eqb (.cons .bool (.cons (.arr 4 (.int .u64)) .nil)) y2.1.1 y3.1.1)
  (brn (Ty.eqb (.arr 4 (.int .u64)) y0.1.1 y1.1.1)
   (brn (@I.eqb .i64 y0.1.2.1 y1.1.2.1)
    (optF (none) (pontagelaw3_awake ((), ())) fun y4 =>
    some ((y4.1.1, ()), ()))
    (some ((false, ()), ())))
   (some ((false, ()), ())))
  (some ((false, ()), ()))

/-- pontage/int256.Neg -/
noncomputable def int256_Neg (x : (⟨[.pl (.cons .bool (.cons (.arr 4 (.int .u64)) .nil))], []⟩ : Tm).D) : Option (⟨[.pl (.cons .bool (.cons (.arr 4 (.int .u64)) .nil)), .pl (.int .i64)], []⟩ : Tm).D :=
 let a : (Bool) × ((I .u64) × (I .u64) × (I .u64) × (I .u64) × Unit) × Unit := x.1.1
 optF (none) (int256_Valid ((a, ()), ())) fun y0 =>
 brn (bnot y0.1.1)
  (some (((false, (((I.of .u64 0), ((I.of .u64 0), ((I.of .u64 0), ((I.of .u64 0), ())))), ())), ((I.of .i64 2), ())), ()))
  (optF (none) (int256_New (((bnot a.1), (a.2.1, ())), ())) fun y1 =>
  some ((y1.1.1, ((I.of .i64 0), ())), ()))

/-- pontage/int256.Cmp -/
noncomputable def int256_Cmp (x : (⟨[.pl (.cons .bool (.cons (.arr 4 (.int .u64)) .nil)), .pl (.cons .bool (.cons (.arr 4 (.int .u64)) .nil))], []⟩ : Tm).D) : Option (⟨[.pl (.int .i64)], []⟩ : Tm).D :=
 let a : (Bool) × ((I .u64) × (I .u64) × (I .u64) × (I .u64) × Unit) × Unit := x.1.1
 let b : (Bool) × ((I .u64) × (I .u64) × (I .u64) × (I .u64) × Unit) × Unit := x.1.2.1
 jn (fun (x0 : ((Bool × Unit) × ((Bool × (((I .u64) × ((I .u64) × ((I .u64) × ((I .u64) × Unit)))) × Unit)) × ((Bool × (((I .u64) × ((I .u64) × ((I .u64) × ((I .u64) × Unit)))) × Unit)) × Unit)))) =>
   brn x0.1.1
    (some (((I.of .i64 0), ()), ()))
    (jn (fun (x1 : ((Bool × Unit) × ((Bool × (((I .u64) × ((I .u64) × ((I .u64) × ((I .u64) × Unit)))) × Unit)) × ((Bool × (((I .u64) × ((I .u64) × ((I .u64) × ((I .u64) × Unit)))) × Unit)) × Unit)))) =>
      brn x1.1.1
       (optF (none) (uint256_Cmp ((x1.2.2.1.2.1, (x1.2.1.2.1, ())), ())) fun y2 =>
       some ((y2.1.1, ()), ()))
       (brn x1.2.1.1
        (some (((I.of .i64 (-1)), ()), ()))
        (brn x1.2.2.1.1
         (some (((I.of .i64 1), ()), ()))
         (optF (none) (uint256_Cmp ((x1.2.1.2.1, (x1.2.2.1.2.1, ())), ())) fun y2 =>
         some ((y2.1.1, ()), ()))))) fun j1 =>
    brn x0.2.1.1
     (j1 ((x0.2.2.1.1, ()), (x0.2.1, (x0.2.2.1, ()))))
     (j1 ((false, ()), (x0.2.1, (x0.2.2.1, ())))))) fun j0 =>
 optF (none) (int256_Valid ((a, ()), ())) fun y1 =>
 brn (bnot y1.1.1)
  (j0 ((true, ()), (a, (b, ()))))
  (optF (none) (int256_Valid ((b, ()), ())) fun y2 =>
  j0 (((bnot y2.1.1), ()), (a, (b, ()))))

/-- pontage/pontageref3.Negate -/
noncomputable def pontageref3_Negate (x : (⟨[.pl (.cons .bool (.cons (.sl (.int .i64)) .nil))], []⟩ : Tm).D) : Option (⟨[.pl (.cons .bool (.cons (.sl (.int .i64)) .nil))], []⟩ : Tm).D :=
 let a : (Bool) × (List (I .i64)) × Unit := x.1.1
 optF (none) (pontageref3_sign (((bnot a.1), (a.2.1, ())), ())) fun y0 =>
 some ((y0.1.1, ()), ())

/-- pontage/pontageref3.Cmp -/
noncomputable def pontageref3_Cmp (x : (⟨[.pl (.cons .bool (.cons (.arr 4 (.int .u64)) .nil)), .pl (.cons .bool (.cons (.arr 4 (.int .u64)) .nil))], []⟩ : Tm).D) : Option (⟨[.pl (.int .i64)], []⟩ : Tm).D :=
 let a : (Bool) × ((I .u64) × (I .u64) × (I .u64) × (I .u64) × Unit) × Unit := x.1.1
 let b : (Bool) × ((I .u64) × (I .u64) × (I .u64) × (I .u64) × Unit) × Unit := x.1.2.1
 jn (fun (x0 : (Unit × ((Bool × (((I .u64) × ((I .u64) × ((I .u64) × ((I .u64) × Unit)))) × Unit)) × ((Bool × (((I .u64) × ((I .u64) × ((I .u64) × ((I .u64) × Unit)))) × Unit)) × Unit)))) =>
   optF (none) (pontageref3_FromInt256 ((x0.2.1, ()), ())) fun y1 =>
   optF (none) (pontageref3_FromInt256 ((x0.2.2.1, ()), ())) fun y2 =>
   optF (none) (pontageref3_Negate ((y2.1.1, ()), ())) fun y3 =>
   optF (none) (pontageref3_Add ((y1.1.1, (y3.1.1, ())), ())) fun y4 =>
   brn y4.1.1.1
    (some (((I.of .i64 (-1)), ()), ()))
    (brn (@I.ltb .i64 (I.of .i64 0) (I.ofNat .i64 (@lenL (I .i64) y4.1.1.2.1)))
     (some (((I.of .i64 1), ()), ()))
     (some (((I.of .i64 0), ()), ())))) fun j0 =>
 optF (none) (pontageref3_Valid ((a, ()), ())) fun y1 =>
 brn (bnot y1.1.1)
  (some (((I.of .i64 0), ()), ()))
  (optF (none) (pontageref3_Valid ((b, ()), ())) fun y2 =>
  brn (bnot y2.1.1)
   (some (((I.of .i64 0), ()), ()))
   (j0 ((), (a, (b, ())))))

/-- pontage/pontageref3.FromInt64 -/
noncomputable def pontageref3_FromInt64 (x : (⟨[.pl (.int .i64)], []⟩ : Tm).D) : Option (⟨[.pl (.cons .bool (.cons (.arr 4 (.int .u64)) .nil))], []⟩ : Tm).D :=
 let a : I .i64 := x.1.1
 brn (@I.ltb .i64 a (I.of .i64 0))
  (some (((true, (((@I.add .u64 (I.conv (k := .i64) .u64 (@I.neg .i64 (@I.add .i64 a (I.of .i64 1)))) (I.of .u64 1)), ((I.of .u64 0), ((I.of .u64 0), ((I.of .u64 0), ())))), ())), ()), ()))
  (some (((false, (((I.conv (k := .i64) .u64 a), ((I.of .u64 0), ((I.of .u64 0), ((I.of .u64 0), ())))), ())), ()), ()))

/-- pontage/pontagelaw3.Int256Order -/
noncomputable def pontagelaw3_Int256Order (x : (⟨[.pl (.cons .bool (.cons (.arr 4 (.int .u64)) .nil)), .pl (.cons .bool (.cons (.arr 4 (.int .u64)) .nil)), .pl (.int .i64), .pl .bool], []⟩ : Tm).D) : Option (⟨[.pl .bool], []⟩ : Tm).D :=
 let a : (Bool) × ((I .u64) × (I .u64) × (I .u64) × (I .u64) × Unit) × Unit := x.1.1
 let b : (Bool) × ((I .u64) × (I .u64) × (I .u64) × (I .u64) × Unit) × Unit := x.1.2.1
 let c : I .i64 := x.1.2.2.1
 let d : Bool := x.1.2.2.2.1
 optF (none) (int256_Neg ((a, ()), ())) fun y0 =>
 jn (fun (x1 : (((I .i64) × (Bool × Unit)) × ((Bool × (((I .u64) × ((I .u64) × ((I .u64) × ((I .u64) × Unit)))) × Unit)) × ((Bool × (((I .u64) × ((I .u64) × ((I .u64) × ((I .u64) × Unit)))) × Unit)) × Unit)))) =>
   optF (none) (int256_New ((x1.1.2.1, (x1.2.2.1.2.1, ())), ())) fun y2 =>
   optF (none) (int256_Valid ((x1.2.1, ()), ())) fun y3 =>
   optF (none) (pontageref3_Valid ((x1.2.1, ()), ())) fun y4 =>
   brn (Ty.eqb .bool y3.1.1 y4.1.1)
    (optF (none) (int256_Cmp ((x1.2.1, (x1.2.2.1, ())), ())) fun y5 =>
    optF (none) (pontageref3_Cmp ((x1.2.1, (x1.2.2.1, ())), ())) fun y6 =>
    brn (@I.eqb .i64 y5.1.1 y6.1.1)
     (optF (none) (int256_FromInt64 ((x1.1.1, ()), ())) fun y7 =>
     optF (none) (pontageref3_FromInt64 ((x1.1.1, ()), ())) fun y8 =>
     brn (Ty.eqb (.cons .bool (.cons (.arr 4 (.int .u64)) .nil)) y7.1.1 y8.1.1)
      (optF (none) (int256_Valid ((y2.1.1, ()), ())) fun y9 =>
      brn y9.1.1
       (brn (Ty.eqb (.arr 4 (.int .u64)) y2.1.1.2.1 x1.2.2.1.2.1)
        (brn x1.1.2.1
         (brn (Ty.eqb .bool y2.1.1.1 (bnot (Ty.eqb (.arr 4 (.int .u64)) x1.2.2.1.2.1 ((I.of .u64 0), ((I.of .u64 0), ((I.of .u64 0), ((I.of .u64 0), ())))))))
          (optF (none) (pontagelaw3_awake ((), ())) fun y10 =>
          some ((y10.1.1, ()), ()))
          (some ((false, ()), ())))
         (brn (Ty.eqb .bool y2.1.1.1 false)
          (optF (none) (pontagelaw3_awake ((), ())) fun y10 =>
          some ((y10.1.1, ()), ()))
          (some ((false, ()), ()))))
        (some ((false, ()), ())))
       (some ((false, ()), ())))
      (some ((false, ()), ())))
     (some ((false, ()), ())))
    (some ((false, ()), ()))) fun j1 =>
 optF (none) (pontageref3_Valid ((a, ()), ())) fun y2 =>
 brn y2.1.1
  (jn (fun (x3 : (((I .i64) × (Bool × ((I .i64) × Unit))) × ((Bool × (((I .u64) × ((I .u64) × ((I .u64) × ((I .u64) × Unit)))) × Unit)) × ((Bool × (((I .u64) × ((I .u64) × ((I .u64) × ((I .u64) × Unit)))) × Unit)) × ((Bool × (((I .u64) × ((I .u64) × ((I .u64) × ((I .u64) × Unit)))) × Unit)) × ((Bool × (((I .u64) × ((I .u64) × ((I .u64) × ((I .u64) × Unit)))) × Unit)) × Unit)))))) =>
    brn (bnot (Ty.eqb (.cons .bool (.cons (.arr 4 (.int .u64)) .nil)) x3.2.2.2.1 x3.2.2.2.2.1))
     (some ((false, ()), ()))
     (brn (@I.neb .i64 x3.1.2.2.1 (I.of .i64 0))
      (some ((false, ()), ()))
      (j1 ((x3.1.1, (x3.1.2.1, ())), (x3.2.1, (x3.2.2.1, ())))))) fun j3 =>
  brn (bnot a.1)
   (j3 ((c, (d, (y0.1.2.1, ()))), (a, (b, (y0.1.1, (((bnot (Ty.eqb (.arr 4 (.int .u64)) a.2.1 ((I.of .u64 0), ((I.of .u64 0), ((I.of .u64 0), ((I.of .u64 0), ())))))), (a.2.1, ())), ()))))))
   (j3 ((c, (d, (y0.1.2.1, ()))), (a, (b, (y0.1.1, ((false, (a.2.1, ())), ())))))))
  (brn (@I.neb .i64 y0.1.2.1 (I.of .i64 2))
   (some ((false, ()), ()))
   (brn (bnot (Ty.eqb (.cons .bool (.cons (.arr 4 (.int .u64)) .nil)) y0.1.1 (false, (((I.of .u64 0), ((I.of .u64 0), ((I.of .u64 0), ((I.of .u64 0), ())))), ()))))
    (some ((false, ()), ()))
    (j1 ((c, (d, ())), (a, (b, ()))))))

/-- pontage/int256.Add -/
noncomputable def int256_Add (x : (⟨[.pl (.cons .bool (.cons (.arr 4 (.int .u64)) .nil)), .pl (.cons .bool (.cons (.arr 4 (.int .u64)) .nil))], []⟩ : Tm).D) : Option (⟨[.pl (.cons .bool (.cons (.arr 4 (.int .u64)) .nil)), .pl (.int .i64)], []⟩ : Tm).D :=
 let a : (Bool) × ((I .u64) × (I .u64) × (I .u64) × (I .u64) × Unit) × Unit := x.1.1
 let b : (Bool) × ((I .u64) × (I .u64) × (I .u64) × (I .u64) × Unit) × Unit := x.1.2.1
 jn (fun (x0 : (Unit × ((Bool × (((I .u64) × ((I .u64) × ((I .u64) × ((I .u64) × Unit)))) × Unit)) × ((Bool × (((I .u64) × ((I .u64) × ((I .u64) × ((I .u64) × Unit)))) × Unit)) × ((Bool × (((I .u64) × ((I .u64) × ((I .u64) × ((I .u64) × Unit)))) × Unit)) × Unit))))) =>
   brn (Ty.eqb .bool x0.2.1.1 x0.2.2.1.1)
    (optF (none) (uint256_Add ((x0.2.1.2.1, (x0.2.2.1.2.1, ())), ())) fun y1 =>
    brn (@I.neb .i64 y1.1.2.1 (I.of .i64 0))
     (some (((false, (((I.of .u64 0), ((I.of .u64 0), ((I.of .u64 0), ((I.of .u64 0), ())))), ())), (y1.1.2.1, ())), ()))
     (optF (none) (int256_New ((x0.2.1.1, (y1.1.1, ())), ())) fun y2 =>
     some ((y2.1.1, ((I.of .i64 0), ())), ())))
    (brn x0.2.1.1
     (optF (none) (int256_Diff ((x0.2.2.1.2.1, (x0.2.1.2.1, ())), ())) fun y1 =>
     some ((y1.1.1, ((I.of .i64 0), ())), ()))
     (optF (none) (int256_Diff ((x0.2.1.2.1, (x0.2.2.1.2.1, ())), ())) fun y1 =>
     some ((y1.1.1, ((I.of .i64 0), ())), ())))) fun j0 =>
 optF (none) (int256_Valid ((a, ()), ())) fun y1 =>
 brn (bnot y1.1.1)
  (some (((false, (((I.of .u64 0), ((I.of .u64 0), ((I.of .u64 0), ((I.of .u64 0), ())))), ())), ((I.of .i64 2), ())), ()))
  (optF (none) (int256_Valid ((b, ()), ())) fun y2 =>
  brn (bnot y2.1.1)
   (some (((false, (((I.of .u64 0), ((I.of .u64 0), ((I.of .u64 0), ((I.of .u64 0), ())))), ())), ((I.of .i64 2), ())), ()))
   (j0 ((), (a, (b, ((false, (((I.of .u64 0), ((I.of .u64 0), ((I.of .u64 0), ((I.of .u64 0), ())))), ())), ()))))))

/-- pontage/pontageref3.Mul -/
noncomputable def pontageref3_Mul (x : (⟨[.pl (.cons .bool (.cons (.sl (.int .i64)) .nil)), .pl (.cons .bool (.cons (.sl (.int .i64)) .nil))], []⟩ : Tm).D) : Option (⟨[.pl (.cons .bool (.cons (.sl (.int .i64)) .nil))], []⟩ : Tm).D :=
 let a : (Bool) × (List (I .i64)) × Unit := x.1.1
 let b : (Bool) × (List (I .i64)) × Unit := x.1.2.1
 optF (none) (pontageref1_Mul ((a.2.1, (b.2.1, ())), ())) fun y0 =>
 optF (none) (pontageref3_sign (((bnot (Ty.eqb .bool a.1 b.1)), (y0.1.1, ())), ())) fun y1 =>
 some ((y1.1.1, ()), ())

/-- pontage/pontageref3.Binary -/
noncomputable def pontageref3_Binary (x : (⟨[.pl (.int .i64), .pl (.cons .bool (.cons (.arr 4 (.int .u64)) .nil)), .pl (.cons .bool (.cons (.arr 4 (.int .u64)) .nil))], []⟩ : Tm).D) : Option (⟨[.pl (.cons .bool (.cons (.arr 4 (.int .u64)) .nil)), .pl (.int .i64)], []⟩ : Tm).D :=
 let a : I .i64 := x.1.1
 let b : (Bool) × ((I .u64) × (I .u64) × (I .u64) × (I .u64) × Unit) × Unit := x.1.2.1
 let c : (Bool) × ((I .u64) × (I .u64) × (I .u64) × (I .u64) × Unit) × Unit := x.1.2.2.1
 jn (fun (x0 : (((I .i64) × Unit) × ((Bool × (((I .u64) × ((I .u64) × ((I .u64) × ((I .u64) × Unit)))) × Unit)) × ((Bool × (((I .u64) × ((I .u64) × ((I .u64) × ((I .u64) × Unit)))) × Unit)) × ((Bool × (((I .u64) × ((I .u64) × ((I .u64) × ((I .u64) × Unit)))) × Unit)) × Unit))))) =>
   optF (none) (pontageref3_FromInt256 ((x0.2.1, ()), ())) fun y1 =>
   optF (none) (pontageref3_FromInt256 ((x0.2.2.1, ()), ())) fun y2 =>
   brn (@I.eqb .i64 x0.1.1 (I.of .i64 3))
    (optF (none) (pontageref3_Mul ((y1.1.1, (y2.1.1, ())), ())) fun y3 =>
    optF (none) (pontageref3_Checked ((y3.1.1, ()), ())) fun y4 =>
    some ((y4.1.1, (y4.1.2.1, ())), ()))
    (jn (fun (x3 : (Unit × ((Bool × (((I .u64) × ((I .u64) × ((I .u64) × ((I .u64) × Unit)))) × Unit)) × ((Bool × ((List (I .i64)) × Unit)) × ((Bool × ((List (I .i64)) × Unit)) × Unit))))) =>
      optF (none) (pontageref3_Add ((x3.2.2.1, (x3.2.2.2.1, ())), ())) fun y4 =>
      optF (none) (pontageref3_Checked ((y4.1.1, ()), ())) fun y5 =>
      some ((y5.1.1, (y5.1.2.1, ())), ())) fun j3 =>
    brn (@I.eqb .i64 x0.1.1 (I.of .i64 2))
     (optF (none) (pontageref3_Negate ((y2.1.1, ()), ())) fun y4 =>
     j3 ((), (x0.2.2.2.1, (y1.1.1, (y4.1.1, ())))))
     (j3 ((), (x0.2.2.2.1, (y1.1.1, (y2.1.1, ()))))))) fun j0 =>
 optF (none) (pontageref3_Valid ((b, ()), ())) fun y1 =>
 brn (bnot y1.1.1)
  (some (((false, (((I.of .u64 0), ((I.of .u64 0), ((I.of .u64 0), ((I.of .u64 0), ())))), ())), ((I.of .i64 2), ())), ()))
  (optF (none) (pontageref3_Valid ((c, ()), ())) fun y2 =>
  brn (bnot y2.1.1)
   (some (((false, (((I.of .u64 0), ((I.of .u64 0), ((I.of .u64 0), ((I.of .u64 0), ())))), ())), ((I.of .i64 2), ())), ()))
   (j0 ((a, ()), (b, (c, ((false, (((I.of .u64 0), ((I.of .u64 0), ((I.of .u64 0), ((I.of .u64 0), ())))), ())), ()))))))

/-- pontage/int256.Sub -/
noncomputable def int256_Sub (x : (⟨[.pl (.cons .bool (.cons (.arr 4 (.int .u64)) .nil)), .pl (.cons .bool (.cons (.arr 4 (.int .u64)) .nil))], []⟩ : Tm).D) : Option (⟨[.pl (.cons .bool (.cons (.arr 4 (.int .u64)) .nil)), .pl (.int .i64)], []⟩ : Tm).D :=
 let a : (Bool) × ((I .u64) × (I .u64) × (I .u64) × (I .u64) × Unit) × Unit := x.1.1
 let b : (Bool) × ((I .u64) × (I .u64) × (I .u64) × (I .u64) × Unit) × Unit := x.1.2.1
 optF (none) (int256_Neg ((b, ()), ())) fun y0 =>
 jn (fun (x1 : (Unit × ((Bool × (((I .u64) × ((I .u64) × ((I .u64) × ((I .u64) × Unit)))) × Unit)) × ((Bool × (((I .u64) × ((I .u64) × ((I .u64) × ((I .u64) × Unit)))) × Unit)) × ((Bool × (((I .u64) × ((I .u64) × ((I .u64) × ((I .u64) × Unit)))) × Unit)) × Unit))))) =>
   optF (none) (int256_Add ((x1.2.1, (x1.2.2.2.1, ())), ())) fun y2 =>
   some ((y2.1.1, (y2.1.2.1, ())), ())) fun j1 =>
 brn (@I.neb .i64 y0.1.2.1 (I.of .i64 0))
  (some (((false, (((I.of .u64 0), ((I.of .u64 0), ((I.of .u64 0), ((I.of .u64 0), ())))), ())), ((I.of .i64 2), ())), ()))
  (optF (none) (int256_Valid ((a, ()), ())) fun y2 =>
  brn (bnot y2.1.1)
   (some (((false, (((I.of .u64 0), ((I.of .u64 0), ((I.of .u64 0), ((I.of .u64 0), ())))), ())), ((I.of .i64 2), ())), ()))
   (j1 ((), (a, ((false, (((I.of .u64 0), ((I.of .u64 0), ((I.of .u64 0), ((I.of .u64 0), ())))), ())), (y0.1.1, ()))))))

/-- pontage/int256.Mul -/
noncomputable def int256_Mul (x : (⟨[.pl (.cons .bool (.cons (.arr 4 (.int .u64)) .nil)), .pl (.cons .bool (.cons (.arr 4 (.int .u64)) .nil))], []⟩ : Tm).D) : Option (⟨[.pl (.cons .bool (.cons (.arr 4 (.int .u64)) .nil)), .pl (.int .i64)], []⟩ : Tm).D :=
 let a : (Bool) × ((I .u64) × (I .u64) × (I .u64) × (I .u64) × Unit) × Unit := x.1.1
 let b : (Bool) × ((I .u64) × (I .u64) × (I .u64) × (I .u64) × Unit) × Unit := x.1.2.1
 jn (fun (x0 : (Unit × ((Bool × (((I .u64) × ((I .u64) × ((I .u64) × ((I .u64) × Unit)))) × Unit)) × ((Bool × (((I .u64) × ((I .u64) × ((I .u64) × ((I .u64) × Unit)))) × Unit)) × ((Bool × (((I .u64) × ((I .u64) × ((I .u64) × ((I .u64) × Unit)))) × Unit)) × Unit))))) =>
   optF (none) (uint256_Mul ((x0.2.1.2.1, (x0.2.2.1.2.1, ())), ())) fun y1 =>
   brn (@I.neb .i64 y1.1.2.1 (I.of .i64 0))
    (some (((false, (((I.of .u64 0), ((I.of .u64 0), ((I.of .u64 0), ((I.of .u64 0), ())))), ())), (y1.1.2.1, ())), ()))
    (optF (none) (int256_New (((bnot (Ty.eqb .bool x0.2.1.1 x0.2.2.1.1)), (y1.1.1, ())), ())) fun y2 =>
    some ((y2.1.1, ((I.of .i64 0), ())), ()))) fun j0 =>
 optF (none) (int256_Valid ((a, ()), ())) fun y1 =>
 brn (bnot y1.1.1)
  (some (((false, (((I.of .u64 0), ((I.of .u64 0), ((I.of .u64 0), ((I.of .u64 0), ())))), ())), ((I.of .i64 2), ())), ()))
  (optF (none) (int256_Valid ((b, ()), ())) fun y2 =>
  brn (bnot y2.1.1)
   (some (((false, (((I.of .u64 0), ((I.of .u64 0), ((I.of .u64 0), ((I.of .u64 0), ())))), ())), ((I.of .i64 2), ())), ()))
   (j0 ((), (a, (b, ((false, (((I.of .u64 0), ((I.of .u64 0), ((I.of .u64 0), ((I.of .u64 0), ())))), ())), ()))))))

/-- pontage/pontagelaw3.Int256Arithmetic -/
noncomputable def pontagelaw3_Int256Arithmetic (x : (⟨[.pl (.cons .bool (.cons (.arr 4 (.int .u64)) .nil)), .pl (.cons .bool (.cons (.arr 4 (.int .u64)) .nil))], []⟩ : Tm).D) : Option (⟨[.pl .bool], []⟩ : Tm).D :=
 let a : (Bool) × ((I .u64) × (I .u64) × (I .u64) × (I .u64) × Unit) × Unit := x.1.1
 let b : (Bool) × ((I .u64) × (I .u64) × (I .u64) × (I .u64) × Unit) × Unit := x.1.2.1
 optF (none) (int256_Add ((a, (b, ())), ())) fun y0 =>
 optF (none) (pontageref3_Binary (((I.of .i64 1), (a, (b, ()))), ())) fun y1 =>
 optF (none) (int256_Sub ((a, (b, ())), ())) fun y2 =>
 optF (none) (pontageref3_Binary (((I.of .i64 2), (a, (b, ()))), ())) fun y3 =>
 optF (none) (int256_Mul ((a, (b, ())), ())) fun y4 =>
 optF (none) (pontageref3_Binary (((I.of .i64 3), (a, (b, ()))), ())) fun y5 =>
 brn (Ty.eqb (.cons .bool (.cons (.arr 4 (.int .u64)) .nil)) y0.1.1 y1.1.1)
  (brn (@I.eqb .i64 y0.1.2.1 y1.1.2.1)
   (brn (Ty.eqb (.cons .bool (.cons (.arr 4 (.int .u64)) .nil)) y2.1.1 y3.1.1)
    (brn (@I.eqb .i64 y2.1.2.1 y3.1.2.1)
     (brn (Ty.eqb (.cons .bool (.cons (.arr 4 (.int .u64)) .nil)) y4.1.1 y5.1.1)
      (brn (@I.eqb .i64 y4.1.2.1 y5.1.2.1)
       (optF (none) (pontagelaw3_awake ((), ())) fun y6 =>
       some ((y6.1.1, ()), ()))
       (some ((false, ()), ())))
      (some ((false, ()), ())))
     (some ((false, ()), ())))
    (some ((false, ()), ())))
   (some ((false, ()), ())))
  (some ((false, ()), ()))

/-- pontage/pontagelaw0.Mod -/
noncomputable def pontagelaw0_Mod (x : (⟨[.pl (.int .i64), .pl (.int .i64)], []⟩ : Tm).D) : Option (⟨[.pl (.int .i64)], []⟩ : Tm).D :=
 let a : I .i64 := x.1.1
 let b : I .i64 := x.1.2.1
 brn (@I.nz .u64 (I.conv (k := .i64) .u64 b))
  (some (((I.conv (k := .u64) .i64 (@I.rem .u64 (I.conv (k := .i64) .u64 a) (I.conv (k := .i64) .u64 b))), ()), ()))
  (none)

/-- pontage/pontagelaw0.EdgeUint256 -/
noncomputable def pontagelaw0_EdgeUint256 (x : (⟨[.pl (.int .u64), .pl (.int .u64), .pl (.int .i64)], []⟩ : Tm).D) : Option (⟨[.pl (.arr 4 (.int .u64))], []⟩ : Tm).D :=
 let a : I .u64 := x.1.1
 let b : I .u64 := x.1.2.1
 let c : I .i64 := x.1.2.2.1
 optF (none) (pontagelaw0_Mod ((c, ((I.of .i64 9), ())), ())) fun y0 =>
 brn (@I.eqb .i64 y0.1.1 (I.of .i64 0))
  (some (((a, ((I.of .u64 0), ((I.of .u64 0), ((I.of .u64 0), ())))), ()), ()))
  (brn (@I.eqb .i64 y0.1.1 (I.of .i64 1))
   (some (((a, (b, ((I.of .u64 0), ((I.of .u64 0), ())))), ()), ()))
   (brn (@I.eqb .i64 y0.1.1 (I.of .i64 2))
    (some (((a, (b, (a, (b, ())))), ()), ()))
    (brn (@I.eqb .i64 y0.1.1 (I.of .i64 3))
     (some ((((@I.sub .u64 (I.of .u64 18446744073709551615) (@I.rem .u64 a (I.of .u64 4))), ((I.of .u64 18446744073709551615), ((I.of .u64 18446744073709551615), ((I.of .u64 18446744073709551615), ())))), ()), ()))
     (brn (@I.eqb .i64 y0.1.1 (I.of .i64 4))
      (some ((((@I.rem .u64 a (I.of .u64 4)), ((I.of .u64 0), ((@I.add .u64 (I.of .u64 1) (@I.rem .u64 b (I.of .u64 4))), ((I.of .u64 0), ())))), ()), ()))
      (brn (@I.eqb .i64 y0.1.1 (I.of .i64 5))
       (some ((((I.of .u64 18446744073709551615), ((I.of .u64 18446744073709551615), ((I.of .u64 0), ((I.of .u64 0), ())))), ()), ()))
       (brn (@I.eqb .i64 y0.1.1 (I.of .i64 6))
        (brn (@I.nn .u64 (@I.rem .u64 b (I.of .u64 64)))
         (some ((((I.of .u64 0), ((I.of .u64 0), ((I.of .u64 0), ((@I.shl .u64 .u64 (I.of .u64 1) (@I.rem .u64 b (I.of .u64 64))), ())))), ()), ()))
         (none))
        (brn (@I.eqb .i64 y0.1.1 (I.of .i64 7))
         (some ((((@I.rem .u64 a (I.of .u64 16)), ((I.of .u64 0), ((I.of .u64 0), ((I.of .u64 0), ())))), ()), ()))
         (some (((b, (a, (b, ((I.of .u64 0), ())))), ()), ())))))))))

/-- pontage/pontagelaw3.Int256Boundaries -/
noncomputable def pontagelaw3_Int256Boundaries (x : (⟨[.pl (.int .u64), .pl (.int .u64), .pl (.int .i64), .pl (.int .i64), .pl .bool, .pl .bool], []⟩ : Tm).D) : Option (⟨[.pl .bool], []⟩ : Tm).D :=
 let a : I .u64 := x.1.1
 let b : I .u64 := x.1.2.1
 let c : I .i64 := x.1.2.2.1
 let d : I .i64 := x.1.2.2.2.1
 let e : Bool := x.1.2.2.2.2.1
 let f : Bool := x.1.2.2.2.2.2.1
 optF (none) (pontagelaw0_EdgeUint256 ((a, (b, (c, ()))), ())) fun y0 =>
 optF (none) (int256_New ((e, (y0.1.1, ())), ())) fun y1 =>
 optF (none) (pontagelaw0_EdgeUint256 ((b, (a, (d, ()))), ())) fun y2 =>
 optF (none) (int256_New ((f, (y2.1.1, ())), ())) fun y3 =>
 optF (none) (int256_Add ((y1.1.1, (y3.1.1, ())), ())) fun y4 =>
 optF (none) (pontageref3_Binary (((I.of .i64 1), (y1.1.1, (y3.1.1, ()))), ())) fun y5 =>
 optF (none) (int256_Sub ((y1.1.1, (y3.1.1, ())), ())) fun y6 =>
 optF (none) (pontageref3_Binary (((I.of .i64 2), (y1.1.1, (y3.1.1, ()))), ())) fun y7 =>
 optF (none) (int256_Mul ((y1.1.1, (y3.1.1, ())), ())) fun y8 =>
 optF (none) (pontageref3_Binary (((I.of .i64 3), (y1.1.1, (y3.1.1, ()))), ())) fun y9 =>
 optF (none) (pontagelaw0_EdgeUint256 ((a, (a, (d, ()))), ())) fun y10 =>
 optF (none) (int256_AddClamped ((y10.1.1, (y3.1.1, ())), ())) fun y11 =>
 optF (none) (pontagelaw0_EdgeUint256 ((a, (a, (d, ()))), ())) fun y12 =>
 optF (none) (pontageref3_AddClamped ((y12.1.1, (y3.1.1, ())), ())) fun y13 =>
 brn (Ty.eqb (.cons .bool (.cons (.arr 4 (.int .u64)) .nil)) y4.1.1 y5.1.1)
  (brn (@I.eqb .i64 y4.1.2.1 y5.1.2.1)
   (brn (Ty.eqb (.cons .bool (.cons (.arr 4 (.int .u64)) .nil)) y6.1.1 y7.1.1)
    (brn (@I.eqb .i64 y6.1.2.1 y7.1.2.1)
     (brn (Ty.eqb (.cons .bool (.cons (.arr 4 (.int .u64)) .nil)) y8.1.1 y9.1.1)
      (brn (@I.eqb .i64 y8.1.2.1 y9.1.2.1)
       (brn (Ty.eqb (.arr 4 (.int .u64)) y11.1.1 y13.1.1)
        (brn (@I.eqb .i64 y11.1.2.1 y13.1.2.1)
         (optF (none) (pontagelaw3_awake ((), ())) fun y14 =>
         some ((y14.1.1, ()), ()))
         (some ((false, ()), ())))
        (some ((false, ()), ())))
       (some ((false, ()), ())))
      (some ((false, ()), ())))
     (some ((false, ()), ())))
    (some ((false, ()), ())))
   (some ((false, ()), ())))
  (some ((false, ()), ()))

/-- pontage/pontagelaw3.Int256Negation -/
noncomputable def pontagelaw3_Int256Negation (x : (⟨[.pl (.cons .bool (.cons (.arr 4 (.int .u64)) .nil)), .pl (.cons .bool (.cons (.arr 4 (.int .u64)) .nil))], []⟩ : Tm).D) : Option (⟨[.pl .bool], []⟩ : Tm).D :=
 let a : (Bool) × ((I .u64) × (I .u64) × (I .u64) × (I .u64) × Unit) × Unit := x.1.1
 let b : (Bool) × ((I .u64) × (I .u64) × (I .u64) × (I .u64) × Unit) × Unit := x.1.2.1
 jn (fun (x0 : (Unit × ((Bool × (((I .u64) × ((I .u64) × ((I .u64) × ((I .u64) × Unit)))) × Unit)) × ((Bool × (((I .u64) × ((I .u64) × ((I .u64) × ((I .u64) × Unit)))) × Unit)) × Unit)))) =>
   optF (none) (int256_Neg ((x0.2.1, ()), ())) fun y1 =>
   optF (none) (int256_Neg ((x0.2.2.1, ()), ())) fun y2 =>
   optF (none) (int256_Add ((x0.2.1, (x0.2.2.1, ())), ())) fun y3 =>
   optF (none) (int256_Add ((y1.1.1, (y2.1.1, ())), ())) fun y4 =>
   optF (none) (int256_Mul ((x0.2.1, (x0.2.2.1, ())), ())) fun y5 =>
   optF (none) (int256_Mul ((y1.1.1, (x0.2.2.1, ())), ())) fun y6 =>
   optF (none) (int256_Neg ((y3.1.1, ()), ())) fun y7 =>
   optF (none) (int256_Neg ((y5.1.1, ()), ())) fun y8 =>
   brn (@I.eqb .i64 y1.1.2.1 (I.of .i64 0))
    (brn (@I.eqb .i64 y2.1.2.1 (I.of .i64 0))
     (brn (@I.eqb .i64 y3.1.2.1 y4.1.2.1)
      (brn (@I.eqb .i64 y5.1.2.1 y6.1.2.1)
       (brn (@I.neb .i64 y3.1.2.1 (I.of .i64 0))
        (brn (@I.neb .i64 y5.1.2.1 (I.of .i64 0))
         (optF (none) (int256_Cmp ((y1.1.1, (y2.1.1, ())), ())) fun y9 =>
         optF (none) (int256_Cmp ((x0.2.2.1, (x0.2.1, ())), ())) fun y10 =>
         brn (@I.eqb .i64 y9.1.1 y10.1.1)
          (optF (none) (pontagelaw3_awake ((), ())) fun y11 =>
          some ((y11.1.1, ()), ()))
          (some ((false, ()), ())))
         (brn (Ty.eqb (.cons .bool (.cons (.arr 4 (.int .u64)) .nil)) y6.1.1 y8.1.1)
          (optF (none) (int256_Cmp ((y1.1.1, (y2.1.1, ())), ())) fun y9 =>
          optF (none) (int256_Cmp ((x0.2.2.1, (x0.2.1, ())), ())) fun y10 =>
          brn (@I.eqb .i64 y9.1.1 y10.1.1)
           (optF (none) (pontagelaw3_awake ((), ())) fun y11 =>
           some ((y11.1.1, ()), ()))
           (some ((false, ()), ())))
          (some ((false, ()), ()))))
        (brn (Ty.eqb (.cons .bool (.cons (.arr 4 (.int .u64)) .nil)) y4.1.1 y7.1.1)
         (brn (@I.neb .i64 y5.1.2.1 (I.of .i64 0))
          (optF (none) (int256_Cmp ((y1.1.1, (y2.1.1, ())), ())) fun y9 =>
          optF (none) (int256_Cmp ((x0.2.2.1, (x0.2.1, ())), ())) fun y10 =>
          brn (@I.eqb .i64 y9.1.1 y10.1.1)
           (optF (none) (pontagelaw3_awake ((), ())) fun y11 =>
           some ((y11.1.1, ()), ()))
           (some ((false, ()), ())))
          (brn (Ty.eqb (.cons .bool (.cons (.arr 4 (.int .u64)) .nil)) y6.1.1 y8.1.1)
           (optF (none) (int256_Cmp ((y1.1.1, (y2.1.1, ())), ())) fun y9 =>
           optF (none) (int256_Cmp ((x0.2.2.1, (x0.2.1, ())), ())) fun y10 =>
           brn (@I.eqb .i64 y9.1.1 y10.1.1)
            (optF (none) (pontagelaw3_awake ((), ())) fun y11 =>
            some ((y11.1.1, ()), ()))
            (some ((false, ()), ())))
           (some ((false, ()), ()))))
         (some ((false, ()), ()))))
       (some ((false, ()), ())))
      (some ((false, ()), ())))
     (some ((false, ()), ())))
    (some ((false, ()), ()))) fun j0 =>
 jn (fun (x1 : ((Bool × Unit) × ((Bool × (((I .u64) × ((I .u64) × ((I .u64) × ((I .u64) × Unit)))) × Unit)) × ((Bool × (((I .u64) × ((I .u64) × ((I .u64) × ((I .u64) × Unit)))) × Unit)) × Unit)))) =>
   brn x1.1.1
    (optF (none) (pontagelaw3_awake ((), ())) fun y2 =>
    some ((y2.1.1, ()), ()))
    (j0 ((), (x1.2.1, (x1.2.2.1, ()))))) fun j1 =>
 optF (none) (int256_Valid ((a, ()), ())) fun y2 =>
 brn (bnot y2.1.1)
  (j1 ((true, ()), (a, (b, ()))))
  (optF (none) (int256_Valid ((b, ()), ())) fun y3 =>
  j1 (((bnot y3.1.1), ()), (a, (b, ()))))

/-- pontage/pontagelaw3.Int256Algebra -/
noncomputable def pontagelaw3_Int256Algebra (x : (⟨[.pl (.cons .bool (.cons (.arr 4 (.int .u64)) .nil)), .pl (.cons .bool (.cons (.arr 4 (.int .u64)) .nil)), .pl (.int .u64)], []⟩ : Tm).D) : Option (⟨[.pl .bool], []⟩ : Tm).D :=
 let a : (Bool) × ((I .u64) × (I .u64) × (I .u64) × (I .u64) × Unit) × Unit := x.1.1
 let b : (Bool) × ((I .u64) × (I .u64) × (I .u64) × (I .u64) × Unit) × Unit := x.1.2.1
 let c : I .u64 := x.1.2.2.1
 jn (fun (x0 : (((I .u64) × Unit) × ((Bool × (((I .u64) × ((I .u64) × ((I .u64) × ((I .u64) × Unit)))) × Unit)) × ((Bool × (((I .u64) × ((I .u64) × ((I .u64) × ((I .u64) × Unit)))) × Unit)) × Unit)))) =>
   optF (none) (int256_Sub ((x0.2.1, (x0.2.2.1, ())), ())) fun y1 =>
   jn (fun (x2 : (((I .u64) × Unit) × ((Bool × (((I .u64) × ((I .u64) × ((I .u64) × ((I .u64) × Unit)))) × Unit)) × Unit))) =>
     brn (@I.eqb .u64 x2.1.1 (I.of .u64 0))
      (optF (none) (pontagelaw3_awake ((), ())) fun y3 =>
      some ((y3.1.1, ()), ()))
      (optF (none) (int256_DivFloor ((x2.2.1, ((x2.1.1, ((I.of .u64 0), ((I.of .u64 0), ((I.of .u64 0), ())))), ())), ())) fun y3 =>
      brn (@I.neb .i64 y3.1.2.1 (I.of .i64 0))
       (some ((false, ()), ()))
       (optF (none) (int256_New ((false, ((x2.1.1, ((I.of .u64 0), ((I.of .u64 0), ((I.of .u64 0), ())))), ())), ())) fun y4 =>
       optF (none) (int256_Mul ((y3.1.1, (y4.1.1, ())), ())) fun y5 =>
       brn (@I.neb .i64 y5.1.2.1 (I.of .i64 0))
        (brn x2.2.1.1
         (optF (none) (pontagelaw3_awake ((), ())) fun y6 =>
         some ((y6.1.1, ()), ()))
         (some ((false, ()), ())))
        (optF (none) (int256_Sub ((x2.2.1, (y5.1.1, ())), ())) fun y6 =>
        brn (@I.eqb .i64 y6.1.2.1 (I.of .i64 0))
         (brn (bnot y6.1.1.1)
          (optF (none) (int256_New ((false, ((x2.1.1, ((I.of .u64 0), ((I.of .u64 0), ((I.of .u64 0), ())))), ())), ())) fun y7 =>
          optF (none) (int256_Cmp ((y6.1.1, (y7.1.1, ())), ())) fun y8 =>
          brn (@I.ltb .i64 y8.1.1 (I.of .i64 0))
           (optF (none) (pontagelaw3_awake ((), ())) fun y9 =>
           some ((y9.1.1, ()), ()))
           (some ((false, ()), ())))
          (some ((false, ()), ())))
         (some ((false, ()), ())))))) fun j2 =>
   brn (@I.eqb .i64 y1.1.2.1 (I.of .i64 0))
    (optF (none) (int256_Add ((y1.1.1, (x0.2.2.1, ())), ())) fun y3 =>
    brn (@I.neb .i64 y3.1.2.1 (I.of .i64 0))
     (some ((false, ()), ()))
     (brn (bnot (Ty.eqb (.cons .bool (.cons (.arr 4 (.int .u64)) .nil)) y3.1.1 x0.2.1))
      (some ((false, ()), ()))
      (optF (none) (int256_Cmp ((x0.2.1, (x0.2.2.1, ())), ())) fun y4 =>
      brn (bnot (Ty.eqb .bool (@I.ltb .i64 y4.1.1 (I.of .i64 0)) y1.1.1.1))
       (some ((false, ()), ()))
       (j2 ((x0.1.1, ()), (x0.2.1, ()))))))
    (j2 ((x0.1.1, ()), (x0.2.1, ())))) fun j0 =>
 jn (fun (x1 : (((I .u64) × (Bool × Unit)) × ((Bool × (((I .u64) × ((I .u64) × ((I .u64) × ((I .u64) × Unit)))) × Unit)) × ((Bool × (((I .u64) × ((I .u64) × ((I .u64) × ((I .u64) × Unit)))) × Unit)) × Unit)))) =>
   brn x1.1.2.1
    (optF (none) (pontagelaw3_awake ((), ())) fun y2 =>
    some ((y2.1.1, ()), ()))
    (j0 ((x1.1.1, ()), (x1.2.1, (x1.2.2.1, ()))))) fun j1 =>
 optF (none) (int256_Valid ((a, ()), ())) fun y2 =>
 brn (bnot y2.1.1)
  (j1 ((c, (true, ())), (a, (b, ()))))
  (optF (none) (int256_Valid ((b, ()), ())) fun y3 =>
  j1 ((c, ((bnot y3.1.1), ())), (a, (b, ()))))

end Sym

/- The contracts of the given functions. -/
namespace Sym
open Go Go.Proofs
set_option maxRecDepth 100000

def tys : List (Nat × Ty) := [(2, (.int .i64)), (3, (.int .i64)), (4, .bool), (22, (.int .u64)), (24, (.arr 4 (.int .u64))), (26, (.cons .bool (.cons (.arr 4 (.int .u64)) .nil))), (27, (.int .i64)), (55, (.sl (.int .i64))), (57, (.cons .bool (.cons (.sl (.int .i64)) .nil))), (75, (.int .u64))]
def eqs : List (Nat × Ty) := [(2, (.int .i64)), (3, (.int .i64)), (4, .bool), (22, (.int .u64)), (24, (.arr 4 (.int .u64))), (26, (.cons .bool (.cons (.arr 4 (.int .u64)) .nil))), (27, (.int .i64)), (75, (.int .u64))]
theorem tysOk : tys.all (fun x => tiB Try.prog x.1 x.2) = true := by kernel_rfl
theorem eqsOk : eqs.all (fun x => eqiB Try.prog x.1 x.2) = true := by kernel_rfl
theorem follows : Try.prog.follows .mixedOrders = true := by kernel_rfl
theorem noOddP : noOdd Try.prog := noOdd_of (by kernel_rfl)
/-- pontage/int256.New -/
noncomputable def int256_NewC : Con := ⟨_, _, int256_New⟩
noncomputable def env19 : Env := mkEnv Try.prog tys eqs []
def ann19 : Anns := fun _ _ => none
theorem ev19 : ∀ x, evalFn env19 ann19 19 ⟨[.pl .bool, .pl (.arr 4 (.int .u64))], []⟩ ⟨[.pl (.cons .bool (.cons (.arr 4 (.int .u64)) .nil))], []⟩ 60 K0 x = int256_New x := by intro x; kernel_rfl
theorem ok19 : ConOk Try.prog 19 int256_NewC := con_of_ev (E := env19) (envOk tysOk eqsOk (show HowsOk Try.prog [] from trivial) follows) noOddP fun x y h => ⟨ann19, 60, K0, (ev19 x).trans h⟩
/-- pontage/int256.Valid -/
noncomputable def int256_ValidC : Con := ⟨_, _, int256_Valid⟩
noncomputable def env20 : Env := mkEnv Try.prog tys eqs []
def ann20 : Anns := fun _ _ => none
theorem ev20 : ∀ x, evalFn env20 ann20 20 ⟨[.pl (.cons .bool (.cons (.arr 4 (.int .u64)) .nil))], []⟩ ⟨[.pl .bool], []⟩ 60 K0 x = int256_Valid x := by intro x; kernel_rfl
theorem ok20 : ConOk Try.prog 20 int256_ValidC := con_of_ev (E := env20) (envOk tysOk eqsOk (show HowsOk Try.prog [] from trivial) follows) noOddP fun x y h => ⟨ann20, 60, K0, (ev20 x).trans h⟩
/-- pontage/uint256.Cmp -/
noncomputable def uint256_CmpC : Con := ⟨_, _, uint256_Cmp⟩
noncomputable def env42 : Env := mkEnv Try.prog tys eqs []
def ann42 : Anns := fun p _ => match p with | 1000000 :: _ => none | _ => some (.unroll 6)
theorem ev42 : ∀ x, evalFn env42 ann42 42 ⟨[.pl (.arr 4 (.int .u64)), .pl (.arr 4 (.int .u64))], []⟩ ⟨[.pl (.int .i64)], []⟩ 60 K0 x = uint256_Cmp x := by intro x; kernel_rfl
theorem ok42 : ConOk Try.prog 42 uint256_CmpC := con_of_ev (E := env42) (envOk tysOk eqsOk (show HowsOk Try.prog [] from trivial) follows) noOddP fun x y h => ⟨ann42, 60, K0, (ev42 x).trans h⟩
/-- pontage/muldiv.shiftLeft -/
noncomputable def muldiv_shiftLeftC : Con := ⟨_, _, muldiv_shiftLeft⟩
noncomputable def env60 : Env := mkEnv Try.prog tys eqs []
def ann60 : Anns := fun p c => match p, c with | [60], 0 => some (.tmpl ⟨[.dead, .pl (.int .u64), .ptr 0 [], .dead, .ptr 1 [], .dead, .pl (.int .u64), .pl (.int .i64), .dead, .dead, .dead, .dead, .dead, .dead, .dead, .dead, .dead, .dead, .dead, .dead, .dead, .dead, .dead, .dead, .dead, .dead, .dead, .dead, .dead, .dead, .dead, .dead, .dead, .dead, .dead], [.box (.arr 4 (.int .u64)) (.pl (.arr 4 (.int .u64))), .box (.arr 4 (.int .u64)) (.pl (.arr 4 (.int .u64)))]⟩) | _, _ => none
theorem ev60 : ∀ x, evalFn env60 ann60 60 ⟨[.pl (.arr 4 (.int .u64)), .pl (.int .u64)], []⟩ ⟨[.pl (.arr 4 (.int .u64)), .pl (.int .u64)], []⟩ 60 K0 x = muldiv_shiftLeft x := by intro x; kernel_rfl
theorem ok60 : ConOk Try.prog 60 muldiv_shiftLeftC := con_of_ev (E := env60) (envOk tysOk eqsOk (show HowsOk Try.prog [] from trivial) follows) noOddP fun x y h => ⟨ann60, 60, K0, (ev60 x).trans h⟩
theorem ok63 : ConOk Try.prog 63 sub64C := sub64_ok (fn := Try.f63) (by kernel_rfl) (by kernel_rfl) (by kernel_rfl) (by kernel_rfl) (by kernel_rfl)
/-- pontage/muldiv.subWrap -/
noncomputable def muldiv_subWrapC : Con := ⟨_, _, muldiv_subWrap⟩
noncomputable def env61 : Env := mkEnv Try.prog tys eqs [(63, .con sub64C)]
def ann61 : Anns := fun p c => match p, c with | [61], 0 => some (.tmpl ⟨[.dead, .dead, .ptr 0 [], .ptr 1 [], .ptr 2 [], .pl (.int .u64), .dead, .pl (.int .i64), .dead, .dead, .dead, .dead, .dead, .dead, .dead, .dead, .dead, .dead, .dead, .dead, .dead, .dead, .dead, .dead, .dead], [.box (.arr 4 (.int .u64)) (.pl (.arr 4 (.int .u64))), .box (.arr 4 (.int .u64)) (.pl (.arr 4 (.int .u64))), .box (.arr 4 (.int .u64)) (.pl (.arr 4 (.int .u64)))]⟩) | _, _ => none
theorem ev61 : ∀ x, evalFn env61 ann61 61 ⟨[.pl (.arr 4 (.int .u64)), .pl (.arr 4 (.int .u64))], []⟩ ⟨[.pl (.arr 4 (.int .u64))], []⟩ 60 K0 x = muldiv_subWrap x := by intro x; kernel_rfl
theorem ok61 : ConOk Try.prog 61 muldiv_subWrapC := con_of_ev (E := env61) (envOk tysOk eqsOk (show HowsOk Try.prog [(63, .con sub64C)] from (And.intro ok63 trivial)) follows) noOddP fun x y h => ⟨ann61, 60, K0, (ev61 x).trans h⟩
/-- pontage/muldiv.Div512 -/
noncomputable def muldiv_Div512C : Con := ⟨_, _, muldiv_Div512⟩
noncomputable def env47 : Env := mkEnv Try.prog tys eqs [(42, .con uint256_CmpC), (60, .con muldiv_shiftLeftC), (61, .con muldiv_subWrapC)]
def ann47 : Anns := fun p c => match p, c with | [47], 0 => some (.tmpl ⟨[.dead, .dead, .dead, .ptr 0 [], .dead, .ptr 1 [], .ptr 2 [], .ptr 3 [], .dead, .pl (.int .i64), .dead, .dead, .dead, .dead, .dead, .dead, .dead, .dead, .dead, .dead, .dead, .dead, .dead, .dead, .dead, .dead, .dead, .dead, .dead, .dead, .dead, .dead, .dead, .dead, .dead, .dead, .dead, .dead, .dead, .dead, .dead, .dead, .dead, .dead, .dead, .dead, .dead, .dead, .dead, .dead, .dead, .dead, .dead, .dead, .dead, .dead, .dead, .dead, .dead, .dead, .dead, .dead], [.box (.arr 4 (.int .u64)) (.pl (.arr 4 (.int .u64))), .box (.arr 4 (.int .u64)) (.pl (.arr 4 (.int .u64))), .box (.arr 4 (.int .u64)) (.pl (.arr 4 (.int .u64))), .box (.arr 4 (.int .u64)) (.pl (.arr 4 (.int .u64)))]⟩) | _, _ => none
theorem ev47 : ∀ x, evalFn env47 ann47 47 ⟨[.pl (.arr 4 (.int .u64)), .pl (.arr 4 (.int .u64)), .pl (.arr 4 (.int .u64))], []⟩ ⟨[.pl (.arr 4 (.int .u64)), .pl (.arr 4 (.int .u64)), .pl (.int .i64)], []⟩ 60 K0 x = muldiv_Div512 x := by intro x; kernel_rfl
theorem ok47 : ConOk Try.prog 47 muldiv_Div512C := con_of_ev (E := env47) (envOk tysOk eqsOk (show HowsOk Try.prog [(42, .con uint256_CmpC), (60, .con muldiv_shiftLeftC), (61, .con muldiv_subWrapC)] from (And.intro ok42 (And.intro ok60 (And.intro ok61 trivial)))) follows) noOddP fun x y h => ⟨ann47, 60, K0, (ev47 x).trans h⟩
/-- pontage/muldiv.DivMod -/
noncomputable def muldiv_DivModC : Con := ⟨_, _, muldiv_DivMod⟩
noncomputable def env30 : Env := mkEnv Try.prog tys eqs [(47, .con muldiv_Div512C)]
def ann30 : Anns := fun _ _ => none
theorem ev30 : ∀ x, evalFn env30 ann30 30 ⟨[.pl (.arr 4 (.int .u64)), .pl (.arr 4 (.int .u64))], []⟩ ⟨[.pl (.arr 4 (.int .u64)), .pl (.arr 4 (.int .u64)), .pl (.int .i64)], []⟩ 60 K0 x = muldiv_DivMod x := by intro x; kernel_rfl
theorem ok30 : ConOk Try.prog 30 muldiv_DivModC := con_of_ev (E := env30) (envOk tysOk eqsOk (show HowsOk Try.prog [(47, .con muldiv_Div512C)] from (And.intro ok47 trivial)) follows) noOddP fun x y h => ⟨ann30, 60, K0, (ev30 x).trans h⟩
theorem ok48 : ConOk Try.prog 48 add64C := add64_ok (fn := Try.f48) (by kernel_rfl) (by kernel_rfl) (by kernel_rfl) (by kernel_rfl) (by kernel_rfl)
/-- pontage/uint256.Add -/
noncomputable def uint256_AddC : Con := ⟨_, _, uint256_Add⟩
noncomputable def env31 : Env := mkEnv Try.prog tys eqs [(48, .con add64C)]
def ann31 : Anns := fun p _ => match p with | 1000000 :: _ => none | _ => some (.unroll 6)
theorem ev31 : ∀ x, evalFn env31 ann31 31 ⟨[.pl (.arr 4 (.int .u64)), .pl (.arr 4 (.int .u64))], []⟩ ⟨[.pl (.arr 4 (.int .u64)), .pl (.int .i64)], []⟩ 60 K0 x = uint256_Add x := by intro x; kernel_rfl
theorem ok31 : ConOk Try.prog 31 uint256_AddC := con_of_ev (E := env31) (envOk tysOk eqsOk (show HowsOk Try.prog [(48, .con add64C)] from (And.intro ok48 trivial)) follows) noOddP fun x y h => ⟨ann31, 60, K0, (ev31 x).trans h⟩
/-- pontage/uint256.FromUint64 -/
noncomputable def uint256_FromUint64C : Con := ⟨_, _, uint256_FromUint64⟩
noncomputable def env32 : Env := mkEnv Try.prog tys eqs []
def ann32 : Anns := fun _ _ => none
theorem ev32 : ∀ x, evalFn env32 ann32 32 ⟨[.pl (.int .u64)], []⟩ ⟨[.pl (.arr 4 (.int .u64))], []⟩ 60 K0 x = uint256_FromUint64 x := by intro x; kernel_rfl
theorem ok32 : ConOk Try.prog 32 uint256_FromUint64C := con_of_ev (E := env32) (envOk tysOk eqsOk (show HowsOk Try.prog [] from trivial) follows) noOddP fun x y h => ⟨ann32, 60, K0, (ev32 x).trans h⟩
/-- pontage/int256.DivFloor -/
noncomputable def int256_DivFloorC : Con := ⟨_, _, int256_DivFloor⟩
noncomputable def env10 : Env := mkEnv Try.prog tys eqs [(19, .con int256_NewC), (20, .con int256_ValidC), (30, .con muldiv_DivModC), (31, .con uint256_AddC), (32, .con uint256_FromUint64C)]
def ann10 : Anns := fun p c => match p, c with | [1000000, 10], 8 => some (.join ⟨[.dead, .dead, .ptr 0 [], .dead, .ptr 1 [], .dead, .ptr 2 [], .dead, .dead, .dead, .dead, .dead, .dead, .dead, .dead, .dead, .dead, .dead, .dead, .dead, .dead, .dead, .dead, .dead, .dead, .dead, .dead, .dead, .dead, .dead, .dead, .pl .bool, .dead, .dead, .dead, .dead, .dead, .dead, .dead, .dead, .dead, .dead], [.box (.cons .bool (.cons (.arr 4 (.int .u64)) .nil)) (.pl (.cons .bool (.cons (.arr 4 (.int .u64)) .nil))), .box (.cons .bool (.cons (.arr 4 (.int .u64)) .nil)) (.pl (.cons .bool (.cons (.arr 4 (.int .u64)) .nil))), .box (.arr 4 (.int .u64)) (.pl (.arr 4 (.int .u64)))]⟩) | _, _ => none
theorem ev10 : ∀ x, evalFn env10 ann10 10 ⟨[.pl (.cons .bool (.cons (.arr 4 (.int .u64)) .nil)), .pl (.arr 4 (.int .u64))], []⟩ ⟨[.pl (.cons .bool (.cons (.arr 4 (.int .u64)) .nil)), .pl (.int .i64)], []⟩ 60 K0 x = int256_DivFloor x := by intro x; kernel_rfl
theorem ok10 : ConOk Try.prog 10 int256_DivFloorC := con_of_ev (E := env10) (envOk tysOk eqsOk (show HowsOk Try.prog [(19, .con int256_NewC), (20, .con int256_ValidC), (30, .con muldiv_DivModC), (31, .con uint256_AddC), (32, .con uint256_FromUint64C)] from (And.intro ok19 (And.intro ok20 (And.intro ok30 (And.intro ok31 (And.intro ok32 trivial)))))) follows) noOddP fun x y h => ⟨ann10, 60, K0, (ev10 x).trans h⟩
/-- pontage/pontageref1.IsZero -/
noncomputable def pontageref1_IsZeroC : Con := ⟨_, _, pontageref1_IsZero⟩
noncomputable def env33 : Env := mkEnv Try.prog tys eqs []
def ann33 : Anns := fun _ _ => none
theorem ev33 : ∀ x, evalFn env33 ann33 33 ⟨[.pl (.arr 4 (.int .u64))], []⟩ ⟨[.pl .bool], []⟩ 60 K0 x = pontageref1_IsZero x := by intro x; kernel_rfl
theorem ok33 : ConOk Try.prog 33 pontageref1_IsZeroC := con_of_ev (E := env33) (envOk tysOk eqsOk (show HowsOk Try.prog [] from trivial) follows) noOddP fun x y h => ⟨ann33, 60, K0, (ev33 x).trans h⟩
/-- pontage/pontageref3.Valid -/
noncomputable def pontageref3_ValidC : Con := ⟨_, _, pontageref3_Valid⟩
noncomputable def env18 : Env := mkEnv Try.prog tys eqs [(33, .con pontageref1_IsZeroC)]
def ann18 : Anns := fun _ _ => none
theorem ev18 : ∀ x, evalFn env18 ann18 18 ⟨[.pl (.cons .bool (.cons (.arr 4 (.int .u64)) .nil))], []⟩ ⟨[.pl .bool], []⟩ 60 K0 x = pontageref3_Valid x := by intro x; kernel_rfl
theorem ok18 : ConOk Try.prog 18 pontageref3_ValidC := con_of_ev (E := env18) (envOk tysOk eqsOk (show HowsOk Try.prog [(33, .con pontageref1_IsZeroC)] from (And.intro ok33 trivial)) follows) noOddP fun x y h => ⟨ann18, 60, K0, (ev18 x).trans h⟩
/-- pontage/pontageref1.Fits -/
noncomputable def pontageref1_FitsC : Con := ⟨_, _, pontageref1_Fits⟩
noncomputable def env56 : Env := mkEnv Try.prog tys eqs []
def ann56 : Anns := fun _ _ => none
theorem ev56 : ∀ x, evalFn env56 ann56 56 ⟨[.pl (.sl (.int .i64))], []⟩ ⟨[.pl .bool], []⟩ 60 K0 x = pontageref1_Fits x := by intro x; kernel_rfl
theorem ok56 : ConOk Try.prog 56 pontageref1_FitsC := con_of_ev (E := env56) (envOk tysOk eqsOk (show HowsOk Try.prog [] from trivial) follows) noOddP fun x y h => ⟨ann56, 60, K0, (ev56 x).trans h⟩
/-- pontage/pontageref1.ToUint256 -/
noncomputable def pontageref1_ToUint256C : Con := ⟨_, _, pontageref1_ToUint256⟩
noncomputable def env57 : Env := mkEnv Try.prog tys eqs []
def ann57 : Anns := fun p c => match p, c with | [1000000, 57], 6 => some (.join ⟨[.pl (.sl (.int .i64)), .dead, .ptr 0 [], .ptr 1 [], .pl (.int .i64), .dead, .dead, .dead, .dead, .dead, .pl (.int .i64), .pl .bool, .dead, .dead, .dead, .dead, .dead, .dead, .dead, .dead, .dead, .dead, .dead, .dead, .dead, .dead, .dead, .dead, .dead, .dead, .dead, .dead, .dead, .dead], [.box (.arr 4 (.int .u64)) (.pl (.arr 4 (.int .u64))), .box (.arr 4 (.int .u64)) (.pl (.arr 4 (.int .u64)))]⟩) | [57], 0 => some (.tmpl ⟨[.pl (.sl (.int .i64)), .dead, .ptr 0 [], .ptr 1 [], .pl (.int .i64), .dead, .dead, .dead, .dead, .dead, .dead, .dead, .dead, .dead, .dead, .dead, .dead, .dead, .dead, .dead, .dead, .dead, .dead, .dead, .dead, .dead, .dead, .dead, .dead, .dead, .dead, .dead, .dead, .dead], [.box (.arr 4 (.int .u64)) (.pl (.arr 4 (.int .u64))), .box (.arr 4 (.int .u64)) (.pl (.arr 4 (.int .u64)))]⟩) | _, _ => none
theorem ev57 : ∀ x, evalFn env57 ann57 57 ⟨[.pl (.sl (.int .i64))], []⟩ ⟨[.pl (.arr 4 (.int .u64))], []⟩ 60 K0 x = pontageref1_ToUint256 x := by intro x; kernel_rfl
theorem ok57 : ConOk Try.prog 57 pontageref1_ToUint256C := con_of_ev (E := env57) (envOk tysOk eqsOk (show HowsOk Try.prog [] from trivial) follows) noOddP fun x y h => ⟨ann57, 60, K0, (ev57 x).trans h⟩
/-- pontage/pontageref1.Checked -/
noncomputable def pontageref1_CheckedC : Con := ⟨_, _, pontageref1_Checked⟩
noncomputable def env41 : Env := mkEnv Try.prog tys eqs [(56, .con pontageref1_FitsC), (57, .con pontageref1_ToUint256C)]
def ann41 : Anns := fun _ _ => none
theorem ev41 : ∀ x, evalFn env41 ann41 41 ⟨[.pl (.sl (.int .i64))], []⟩ ⟨[.pl (.arr 4 (.int .u64)), .pl (.int .i64)], []⟩ 60 K0 x = pontageref1_Checked x := by intro x; kernel_rfl
theorem ok41 : ConOk Try.prog 41 pontageref1_CheckedC := con_of_ev (E := env41) (envOk tysOk eqsOk (show HowsOk Try.prog [(56, .con pontageref1_FitsC), (57, .con pontageref1_ToUint256C)] from (And.intro ok56 (And.intro ok57 trivial))) follows) noOddP fun x y h => ⟨ann41, 60, K0, (ev41 x).trans h⟩
/-- pontage/pontageref3.Checked -/
noncomputable def pontageref3_CheckedC : Con := ⟨_, _, pontageref3_Checked⟩
noncomputable def env34 : Env := mkEnv Try.prog tys eqs [(41, .con pontageref1_CheckedC)]
def ann34 : Anns := fun _ _ => none
theorem ev34 : ∀ x, evalFn env34 ann34 34 ⟨[.pl (.cons .bool (.cons (.sl (.int .i64)) .nil))], []⟩ ⟨[.pl (.cons .bool (.cons (.arr 4 (.int .u64)) .nil)), .pl (.int .i64)], []⟩ 60 K0 x = pontageref3_Checked x := by intro x; kernel_rfl
theorem ok34 : ConOk Try.prog 34 pontageref3_CheckedC := con_of_ev (E := env34) (envOk tysOk eqsOk (show HowsOk Try.prog [(41, .con pontageref1_CheckedC)] from (And.intro ok41 trivial)) follows) noOddP fun x y h => ⟨ann34, 60, K0, (ev34 x).trans h⟩
/-- pontage/pontageref3.sign -/
noncomputable def pontageref3_signC : Con := ⟨_, _, pontageref3_sign⟩
noncomputable def env40 : Env := mkEnv Try.prog tys eqs []
def ann40 : Anns := fun _ _ => none
theorem ev40 : ∀ x, evalFn env40 ann40 40 ⟨[.pl .bool, .pl (.sl (.int .i64))], []⟩ ⟨[.pl (.cons .bool (.cons (.sl (.int .i64)) .nil))], []⟩ 60 K0 x = pontageref3_sign x := by intro x; kernel_rfl
theorem ok40 : ConOk Try.prog 40 pontageref3_signC := con_of_ev (E := env40) (envOk tysOk eqsOk (show HowsOk Try.prog [] from trivial) follows) noOddP fun x y h => ⟨ann40, 60, K0, (ev40 x).trans h⟩
/-- pontage/pontageref1.norm -/
noncomputable def pontageref1_normC : Con := ⟨_, _, pontageref1_norm⟩
noncomputable def env52 : Env := mkEnv Try.prog tys eqs []
def ann52 : Anns := fun p c => match p, c with | [52], 0 => some (.tmpl ⟨[.pl (.sl (.int .i64)), .dead, .dead, .pl (.int .i64), .dead, .dead, .dead, .dead, .dead, .dead, .dead, .dead, .dead, .dead, .dead, .dead, .dead, .dead, .dead, .dead, .dead], []⟩) | _, _ => none
theorem ev52 : ∀ x, evalFn env52 ann52 52 ⟨[.pl (.sl (.int .i64))], []⟩ ⟨[.pl (.sl (.int .i64))], []⟩ 60 K0 x = pontageref1_norm x := by intro x; kernel_rfl
theorem ok52 : ConOk Try.prog 52 pontageref1_normC := con_of_ev (E := env52) (envOk tysOk eqsOk (show HowsOk Try.prog [] from trivial) follows) noOddP fun x y h => ⟨ann52, 60, K0, (ev52 x).trans h⟩
/-- pontage/pontageref1.Cmp -/
noncomputable def pontageref1_CmpC : Con := ⟨_, _, pontageref1_Cmp⟩
noncomputable def env54 : Env := mkEnv Try.prog tys eqs []
def ann54 : Anns := fun p c => match p, c with | [54], 0 => some (.tmpl ⟨[.pl (.sl (.int .i64)), .pl (.sl (.int .i64)), .dead, .dead, .dead, .pl (.int .i64), .dead, .dead, .dead, .dead, .dead, .dead, .dead, .dead, .dead, .dead, .dead, .dead, .dead, .dead, .dead, .dead, .dead, .dead, .dead, .dead, .dead, .dead, .dead, .dead, .dead, .dead, .dead, .dead, .dead, .dead, .dead, .dead, .dead, .dead, .dead], []⟩) | _, _ => none
theorem ev54 : ∀ x, evalFn env54 ann54 54 ⟨[.pl (.sl (.int .i64)), .pl (.sl (.int .i64))], []⟩ ⟨[.pl (.int .i64)], []⟩ 60 K0 x = pontageref1_Cmp x := by intro x; kernel_rfl
theorem ok54 : ConOk Try.prog 54 pontageref1_CmpC := con_of_ev (E := env54) (envOk tysOk eqsOk (show HowsOk Try.prog [] from trivial) follows) noOddP fun x y h => ⟨ann54, 60, K0, (ev54 x).trans h⟩
/-- pontage/pontageref1.Sub -/
noncomputable def pontageref1_SubC : Con := ⟨_, _, pontageref1_Sub⟩
noncomputable def env55 : Env := mkEnv Try.prog tys eqs [(52, .con pontageref1_normC)]
def ann55 : Anns := fun p c => match p, c with | [1000000, 55], 10 => some (.join ⟨[.pl (.sl (.int .i64)), .pl (.sl (.int .i64)), .dead, .dead, .dead, .whole 0, .dead, .pl (.int .i64), .pl (.int .i64), .dead, .dead, .dead, .dead, .dead, .dead, .dead, .dead, .dead, .dead, .dead, .dead, .dead, .dead, .dead, .dead, .dead, .dead, .dead, .dead, .dead, .dead, .dead, .dead, .dead, .dead, .dead, .dead, .dead, .dead, .dead, .dead, .dead, .dead, .dead], [.row (.int .i64)]⟩) | [55], 0 => some (.tmpl ⟨[.pl (.sl (.int .i64)), .pl (.sl (.int .i64)), .dead, .dead, .dead, .whole 0, .pl (.int .i64), .pl (.int .i64), .dead, .dead, .dead, .dead, .dead, .dead, .dead, .dead, .dead, .dead, .dead, .dead, .dead, .dead, .dead, .dead, .dead, .dead, .dead, .dead, .dead, .dead, .dead, .dead, .dead, .dead, .dead, .dead, .dead, .dead, .dead, .dead, .dead, .dead, .dead, .dead], [.row (.int .i64)]⟩) | _, _ => none
theorem ev55 : ∀ x, evalFn env55 ann55 55 ⟨[.pl (.sl (.int .i64)), .pl (.sl (.int .i64))], []⟩ ⟨[.pl (.sl (.int .i64))], []⟩ 60 K0 x = pontageref1_Sub x := by intro x; kernel_rfl
theorem ok55 : ConOk Try.prog 55 pontageref1_SubC := con_of_ev (E := env55) (envOk tysOk eqsOk (show HowsOk Try.prog [(52, .con pontageref1_normC)] from (And.intro ok52 trivial)) follows) noOddP fun x y h => ⟨ann55, 60, K0, (ev55 x).trans h⟩
/-- pontage/pontageref1.short -/
noncomputable def pontageref1_shortC : Con := ⟨_, _, pontageref1_short⟩
noncomputable def env62 : Env := mkEnv Try.prog tys eqs [(52, .con pontageref1_normC)]
def ann62 : Anns := fun p c => match p, c with | [62], 0 => some (.tmpl ⟨[.pl (.sl (.int .i64)), .pl (.int .i64), .dead, .dead, .dead, .dead, .whole 0, .pl (.int .i64), .pl (.int .i64), .dead, .dead, .dead, .dead, .dead, .dead, .dead, .dead, .dead, .dead, .dead, .dead, .dead, .dead, .dead, .dead, .dead, .dead, .dead, .dead, .dead, .dead, .dead, .dead, .dead, .dead, .dead, .dead, .dead, .dead, .dead, .dead], [.row (.int .i64)]⟩) | _, _ => none
theorem ev62 : ∀ x, evalFn env62 ann62 62 ⟨[.pl (.sl (.int .i64)), .pl (.int .i64)], []⟩ ⟨[.pl (.sl (.int .i64)), .pl (.sl (.int .i64))], []⟩ 60 K0 x = pontageref1_short x := by intro x; kernel_rfl
theorem ok62 : ConOk Try.prog 62 pontageref1_shortC := con_of_ev (E := env62) (envOk tysOk eqsOk (show HowsOk Try.prog [(52, .con pontageref1_normC)] from (And.intro ok52 trivial)) follows) noOddP fun x y h => ⟨ann62, 60, K0, (ev62 x).trans h⟩
/-- pontage/pontageref1.Div -/
noncomputable def pontageref1_DivC : Con := ⟨_, _, pontageref1_Div⟩
noncomputable def env49 : Env := mkEnv Try.prog tys eqs [(52, .con pontageref1_normC), (54, .con pontageref1_CmpC), (55, .con pontageref1_SubC), (62, .con pontageref1_shortC)]
def ann49 : Anns := fun p c => match p, c with | [49], 0 => some (.tmpl ⟨[.pl (.sl (.int .i64)), .pl (.sl (.int .i64)), .dead, .dead, .dead, .dead, .whole 0, .whole 1, .pl (.int .i64), .dead, .dead, .dead, .dead, .dead, .dead, .dead, .dead, .dead, .dead, .dead, .dead, .dead, .dead, .dead, .dead, .dead, .dead, .dead, .dead, .dead, .dead, .dead, .dead, .dead, .dead, .dead, .dead, .dead, .dead, .dead, .dead, .dead, .dead, .dead, .dead, .dead, .dead, .dead, .dead, .dead, .dead, .dead, .dead, .dead, .dead, .dead, .dead, .dead, .dead, .dead, .dead, .dead, .dead, .dead, .dead, .dead, .dead, .dead, .dead, .dead, .dead, .dead, .dead, .dead, .dead, .dead, .dead, .dead, .dead, .dead, .dead, .dead, .dead, .dead, .dead, .dead, .dead, .dead, .dead, .dead, .dead, .dead, .dead, .dead, .dead, .dead, .dead, .dead, .dead, .dead, .dead, .dead, .dead, .dead, .dead, .dead, .dead, .dead, .dead, .dead, .dead, .dead, .dead, .dead], [.row (.int .i64), .row (.int .i64)]⟩) | [49], 2 => some (.tmpl ⟨[.pl (.sl (.int .i64)), .pl (.sl (.int .i64)), .dead, .dead, .dead, .dead, .whole 0, .whole 1, .pl (.int .i64), .pl (.int .i64), .dead, .dead, .dead, .dead, .dead, .dead, .dead, .dead, .dead, .dead, .dead, .dead, .dead, .dead, .dead, .dead, .dead, .dead, .dead, .dead, .dead, .dead, .dead, .dead, .dead, .dead, .dead, .dead, .dead, .dead, .dead, .dead, .dead, .dead, .dead, .dead, .dead, .dead, .dead, .dead, .dead, .dead, .dead, .dead, .dead, .dead, .dead, .dead, .dead, .dead, .dead, .dead, .dead, .dead, .dead, .dead, .dead, .dead, .dead, .dead, .dead, .dead, .dead, .dead, .dead, .dead, .dead, .dead, .dead, .dead, .dead, .dead, .dead, .dead, .dead, .dead, .dead, .dead, .dead, .dead, .dead, .dead, .dead, .dead, .dead, .dead, .dead, .dead, .dead, .dead, .dead, .dead, .dead, .dead, .dead, .dead, .dead, .dead, .dead, .dead, .dead, .dead, .dead, .dead], [.row (.int .i64), .row (.int .i64)]⟩) | [49], 4 => some (.tmpl ⟨[.pl (.sl (.int .i64)), .pl (.sl (.int .i64)), .dead, .dead, .dead, .dead, .whole 0, .whole 1, .pl (.int .i64), .pl (.int .i64), .pl (.int .i64), .pl (.int .i64), .dead, .dead, .dead, .dead, .dead, .dead, .dead, .dead, .dead, .dead, .dead, .dead, .dead, .dead, .dead, .dead, .dead, .dead, .dead, .dead, .dead, .dead, .dead, .dead, .dead, .dead, .dead, .dead, .dead, .dead, .dead, .dead, .dead, .dead, .dead, .dead, .dead, .dead, .dead, .dead, .dead, .dead, .dead, .dead, .dead, .dead, .dead, .dead, .dead, .dead, .dead, .dead, .dead, .dead, .dead, .dead, .dead, .dead, .dead, .dead, .dead, .dead, .dead, .dead, .dead, .dead, .dead, .dead, .dead, .dead, .dead, .dead, .dead, .dead, .dead, .dead, .dead, .dead, .dead, .dead, .dead, .dead, .dead, .dead, .dead, .dead, .dead, .dead, .dead, .dead, .dead, .dead, .dead, .dead, .dead, .dead, .dead, .dead, .dead, .dead, .dead, .dead], [.row (.int .i64), .row (.int .i64)]⟩) | _, _ => none
theorem ev49 : ∀ x, evalFn env49 ann49 49 ⟨[.pl (.sl (.int .i64)), .pl (.sl (.int .i64))], []⟩ ⟨[.pl (.sl (.int .i64)), .pl (.sl (.int .i64))], []⟩ 60 K0 x = pontageref1_Div x := by intro x; kernel_rfl
theorem ok49 : ConOk Try.prog 49 pontageref1_DivC := con_of_ev (E := env49) (envOk tysOk eqsOk (show HowsOk Try.prog [(52, .con pontageref1_normC), (54, .con pontageref1_CmpC), (55, .con pontageref1_SubC), (62, .con pontageref1_shortC)] from (And.intro ok52 (And.intro ok54 (And.intro ok55 (And.intro ok62 trivial))))) follows) noOddP fun x y h => ⟨ann49, 60, K0, (ev49 x).trans h⟩
/-- pontage/pontageref1.Add -/
noncomputable def pontageref1_AddC : Con := ⟨_, _, pontageref1_Add⟩
noncomputable def env50 : Env := mkEnv Try.prog tys eqs []
def ann50 : Anns := fun p c => match p, c with | [1000000, 50], 7 => some (.join ⟨[.pl (.sl (.int .i64)), .pl (.sl (.int .i64)), .dead, .dead, .dead, .whole 0, .pl (.int .i64), .pl (.int .i64), .dead, .dead, .dead, .dead, .dead, .dead, .dead, .dead, .dead, .dead, .dead, .dead, .dead, .dead, .dead, .dead, .dead, .dead, .dead, .dead, .dead, .dead, .dead, .dead, .dead, .dead, .dead, .dead, .dead, .dead, .dead, .dead, .dead, .dead, .dead, .dead, .dead, .dead, .dead, .dead, .dead, .dead, .dead, .dead], [.row (.int .i64)]⟩) | [1000000, 50], 9 => some (.join ⟨[.pl (.sl (.int .i64)), .pl (.sl (.int .i64)), .dead, .dead, .dead, .whole 0, .pl (.int .i64), .pl (.int .i64), .dead, .dead, .dead, .dead, .dead, .dead, .dead, .dead, .dead, .dead, .dead, .dead, .dead, .dead, .dead, .dead, .dead, .dead, .dead, .dead, .dead, .dead, .dead, .dead, .dead, .dead, .dead, .dead, .dead, .dead, .dead, .dead, .dead, .dead, .dead, .dead, .dead, .dead, .dead, .dead, .dead, .dead, .dead, .dead], [.row (.int .i64)]⟩) | [50], 0 => some (.tmpl ⟨[.pl (.sl (.int .i64)), .pl (.sl (.int .i64)), .dead, .dead, .dead, .whole 0, .pl (.int .i64), .pl (.int .i64), .dead, .dead, .dead, .dead, .dead, .dead, .dead, .dead, .dead, .dead, .dead, .dead, .dead, .dead, .dead, .dead, .dead, .dead, .dead, .dead, .dead, .dead, .dead, .dead, .dead, .dead, .dead, .dead, .dead, .dead, .dead, .dead, .dead, .dead, .dead, .dead, .dead, .dead, .dead, .dead, .dead, .dead, .dead, .dead], [.row (.int .i64)]⟩) | _, _ => none
theorem ev50 : ∀ x, evalFn env50 ann50 50 ⟨[.pl (.sl (.int .i64)), .pl (.sl (.int .i64))], []⟩ ⟨[.pl (.sl (.int .i64))], []⟩ 60 K0 x = pontageref1_Add x := by intro x; kernel_rfl
theorem ok50 : ConOk Try.prog 50 pontageref1_AddC := con_of_ev (E := env50) (envOk tysOk eqsOk (show HowsOk Try.prog [] from trivial) follows) noOddP fun x y h => ⟨ann50, 60, K0, (ev50 x).trans h⟩
/-- pontage/pontageref1.FromUint256 -/
noncomputable def pontageref1_FromUint256C : Con := ⟨_, _, pontageref1_FromUint256⟩
noncomputable def env37 : Env := mkEnv Try.prog tys eqs [(52, .con pontageref1_normC)]
def ann37 : Anns := fun p c => match p, c with | [37], 0 => some (.tmpl ⟨[.dead, .ptr 0 [], .dead, .whole 1, .pl (.int .i64), .dead, .dead, .dead, .dead, .dead, .dead, .dead, .dead, .dead, .dead, .dead, .dead, .dead, .dead, .dead, .dead, .dead, .dead, .dead, .dead, .dead], [.box (.arr 4 (.int .u64)) (.pl (.arr 4 (.int .u64))), .row (.int .i64)]⟩) | _, _ => none
theorem ev37 : ∀ x, evalFn env37 ann37 37 ⟨[.pl (.arr 4 (.int .u64))], []⟩ ⟨[.pl (.sl (.int .i64))], []⟩ 60 K0 x = pontageref1_FromUint256 x := by intro x; kernel_rfl
theorem ok37 : ConOk Try.prog 37 pontageref1_FromUint256C := con_of_ev (E := env37) (envOk tysOk eqsOk (show HowsOk Try.prog [(52, .con pontageref1_normC)] from (And.intro ok52 trivial)) follows) noOddP fun x y h => ⟨ann37, 60, K0, (ev37 x).trans h⟩
/-- pontage/pontageref1.FromUint64 -/
noncomputable def pontageref1_FromUint64C : Con := ⟨_, _, pontageref1_FromUint64⟩
noncomputable def env51 : Env := mkEnv Try.prog tys eqs [(37, .con pontageref1_FromUint256C)]
def ann51 : Anns := fun _ _ => none
theorem ev51 : ∀ x, evalFn env51 ann51 51 ⟨[.pl (.int .u64)], []⟩ ⟨[.pl (.sl (.int .i64))], []⟩ 60 K0 x = pontageref1_FromUint64 x := by intro x; kernel_rfl
theorem ok51 : ConOk Try.prog 51 pontageref1_FromUint64C := con_of_ev (E := env51) (envOk tysOk eqsOk (show HowsOk Try.prog [(37, .con pontageref1_FromUint256C)] from (And.intro ok37 trivial)) follows) noOddP fun x y h => ⟨ann51, 60, K0, (ev51 x).trans h⟩
/-- pontage/pontageref3.DivFloor -/
noncomputable def pontageref3_DivFloorC : Con := ⟨_, _, pontageref3_DivFloor⟩
noncomputable def env35 : Env := mkEnv Try.prog tys eqs [(40, .con pontageref3_signC), (49, .con pontageref1_DivC), (50, .con pontageref1_AddC), (51, .con pontageref1_FromUint64C)]
def ann35 : Anns := fun p c => match p, c with | [1000000, 35], 4 => some (.join ⟨[.dead, .dead, .ptr 0 [], .dead, .ptr 1 [], .pl (.sl (.int .i64)), .dead, .dead, .dead, .dead, .dead, .dead, .dead, .dead, .dead, .dead, .dead, .dead, .dead, .dead, .pl .bool, .dead, .dead, .dead, .dead, .dead, .dead, .dead], [.box (.cons .bool (.cons (.sl (.int .i64)) .nil)) (.pl (.cons .bool (.cons (.sl (.int .i64)) .nil))), .box (.cons .bool (.cons (.sl (.int .i64)) .nil)) (.pl (.cons .bool (.cons (.sl (.int .i64)) .nil)))]⟩) | _, _ => none
theorem ev35 : ∀ x, evalFn env35 ann35 35 ⟨[.pl (.cons .bool (.cons (.sl (.int .i64)) .nil)), .pl (.sl (.int .i64))], []⟩ ⟨[.pl (.cons .bool (.cons (.sl (.int .i64)) .nil))], []⟩ 60 K0 x = pontageref3_DivFloor x := by intro x; kernel_rfl
theorem ok35 : ConOk Try.prog 35 pontageref3_DivFloorC := con_of_ev (E := env35) (envOk tysOk eqsOk (show HowsOk Try.prog [(40, .con pontageref3_signC), (49, .con pontageref1_DivC), (50, .con pontageref1_AddC), (51, .con pontageref1_FromUint64C)] from (And.intro ok40 (And.intro ok49 (And.intro ok50 (And.intro ok51 trivial))))) follows) noOddP fun x y h => ⟨ann35, 60, K0, (ev35 x).trans h⟩
/-- pontage/pontageref3.FromInt256 -/
noncomputable def pontageref3_FromInt256C : Con := ⟨_, _, pontageref3_FromInt256⟩
noncomputable def env36 : Env := mkEnv Try.prog tys eqs [(37, .con pontageref1_FromUint256C), (40, .con pontageref3_signC)]
def ann36 : Anns := fun _ _ => none
theorem ev36 : ∀ x, evalFn env36 ann36 36 ⟨[.pl (.cons .bool (.cons (.arr 4 (.int .u64)) .nil))], []⟩ ⟨[.pl (.cons .bool (.cons (.sl (.int .i64)) .nil))], []⟩ 60 K0 x = pontageref3_FromInt256 x := by intro x; kernel_rfl
theorem ok36 : ConOk Try.prog 36 pontageref3_FromInt256C := con_of_ev (E := env36) (envOk tysOk eqsOk (show HowsOk Try.prog [(37, .con pontageref1_FromUint256C), (40, .con pontageref3_signC)] from (And.intro ok37 (And.intro ok40 trivial))) follows) noOddP fun x y h => ⟨ann36, 60, K0, (ev36 x).trans h⟩
/-- pontage/pontageref3.DivFloor256 -/
noncomputable def pontageref3_DivFloor256C : Con := ⟨_, _, pontageref3_DivFloor256⟩
noncomputable def env11 : Env := mkEnv Try.prog tys eqs [(18, .con pontageref3_ValidC), (33, .con pontageref1_IsZeroC), (34, .con pontageref3_CheckedC), (35, .con pontageref3_DivFloorC), (36, .con pontageref3_FromInt256C), (37, .con pontageref1_FromUint256C)]
def ann11 : Anns := fun _ _ => none
theorem ev11 : ∀ x, evalFn env11 ann11 11 ⟨[.pl (.cons .bool (.cons (.arr 4 (.int .u64)) .nil)), .pl (.arr 4 (.int .u64))], []⟩ ⟨[.pl (.cons .bool (.cons (.arr 4 (.int .u64)) .nil)), .pl (.int .i64)], []⟩ 60 K0 x = pontageref3_DivFloor256 x := by intro x; kernel_rfl
theorem ok11 : ConOk Try.prog 11 pontageref3_DivFloor256C := con_of_ev (E := env11) (envOk tysOk eqsOk (show HowsOk Try.prog [(18, .con pontageref3_ValidC), (33, .con pontageref1_IsZeroC), (34, .con pontageref3_CheckedC), (35, .con pontageref3_DivFloorC), (36, .con pontageref3_FromInt256C), (37, .con pontageref1_FromUint256C)] from (And.intro ok18 (And.intro ok33 (And.intro ok34 (And.intro ok35 (And.intro ok36 (And.intro ok37 trivial))))))) follows) noOddP fun x y h => ⟨ann11, 60, K0, (ev11 x).trans h⟩
/-- pontage/uint256.Sub -/
noncomputable def uint256_SubC : Con := ⟨_, _, uint256_Sub⟩
noncomputable def env53 : Env := mkEnv Try.prog tys eqs [(63, .con sub64C)]
def ann53 : Anns := fun p _ => match p with | 1000000 :: _ => none | _ => some (.unroll 6)
theorem ev53 : ∀ x, evalFn env53 ann53 53 ⟨[.pl (.arr 4 (.int .u64)), .pl (.arr 4 (.int .u64))], []⟩ ⟨[.pl (.arr 4 (.int .u64)), .pl (.int .i64)], []⟩ 60 K0 x = uint256_Sub x := by intro x; kernel_rfl
theorem ok53 : ConOk Try.prog 53 uint256_SubC := con_of_ev (E := env53) (envOk tysOk eqsOk (show HowsOk Try.prog [(63, .con sub64C)] from (And.intro ok63 trivial)) follows) noOddP fun x y h => ⟨ann53, 60, K0, (ev53 x).trans h⟩
/-- pontage/uint256.SaturatingSub -/
noncomputable def uint256_SaturatingSubC : Con := ⟨_, _, uint256_SaturatingSub⟩
noncomputable def env38 : Env := mkEnv Try.prog tys eqs [(53, .con uint256_SubC)]
def ann38 : Anns := fun _ _ => none
theorem ev38 : ∀ x, evalFn env38 ann38 38 ⟨[.pl (.arr 4 (.int .u64)), .pl (.arr 4 (.int .u64))], []⟩ ⟨[.pl (.arr 4 (.int .u64))], []⟩ 60 K0 x = uint256_SaturatingSub x := by intro x; kernel_rfl
theorem ok38 : ConOk Try.prog 38 uint256_SaturatingSubC := con_of_ev (E := env38) (envOk tysOk eqsOk (show HowsOk Try.prog [(53, .con uint256_SubC)] from (And.intro ok53 trivial)) follows) noOddP fun x y h => ⟨ann38, 60, K0, (ev38 x).trans h⟩
/-- pontage/int256.AddClamped -/
noncomputable def int256_AddClampedC : Con := ⟨_, _, int256_AddClamped⟩
noncomputable def env13 : Env := mkEnv Try.prog tys eqs [(20, .con int256_ValidC), (31, .con uint256_AddC), (38, .con uint256_SaturatingSubC)]
def ann13 : Anns := fun _ _ => none
theorem ev13 : ∀ x, evalFn env13 ann13 13 ⟨[.pl (.arr 4 (.int .u64)), .pl (.cons .bool (.cons (.arr 4 (.int .u64)) .nil))], []⟩ ⟨[.pl (.arr 4 (.int .u64)), .pl (.int .i64)], []⟩ 60 K0 x = int256_AddClamped x := by intro x; kernel_rfl
theorem ok13 : ConOk Try.prog 13 int256_AddClampedC := con_of_ev (E := env13) (envOk tysOk eqsOk (show HowsOk Try.prog [(20, .con int256_ValidC), (31, .con uint256_AddC), (38, .con uint256_SaturatingSubC)] from (And.intro ok20 (And.intro ok31 (And.intro ok38 trivial)))) follows) noOddP fun x y h => ⟨ann13, 60, K0, (ev13 x).trans h⟩
/-- pontage/int256.FromInt64 -/
noncomputable def int256_FromInt64C : Con := ⟨_, _, int256_FromInt64⟩
noncomputable def env23 : Env := mkEnv Try.prog tys eqs [(32, .con uint256_FromUint64C)]
def ann23 : Anns := fun _ _ => none
theorem ev23 : ∀ x, evalFn env23 ann23 23 ⟨[.pl (.int .i64)], []⟩ ⟨[.pl (.cons .bool (.cons (.arr 4 (.int .u64)) .nil))], []⟩ 60 K0 x = int256_FromInt64 x := by intro x; kernel_rfl
theorem ok23 : ConOk Try.prog 23 int256_FromInt64C := con_of_ev (E := env23) (envOk tysOk eqsOk (show HowsOk Try.prog [(32, .con uint256_FromUint64C)] from (And.intro ok32 trivial)) follows) noOddP fun x y h => ⟨ann23, 60, K0, (ev23 x).trans h⟩
/-- pontage/pontagelaw3.awake -/
noncomputable def pontagelaw3_awakeC : Con := ⟨_, _, pontagelaw3_awake⟩
noncomputable def env12 : Env := mkEnv Try.prog tys eqs [(10, .con int256_DivFloorC), (13, .con int256_AddClampedC), (20, .con int256_ValidC), (23, .con int256_FromInt64C)]
def ann12 : Anns := fun _ _ => none
theorem ev12 : ∀ x, evalFn env12 ann12 12 ⟨[], []⟩ ⟨[.pl .bool], []⟩ 60 K0 x = pontagelaw3_awake x := by intro x; kernel_rfl
theorem ok12 : ConOk Try.prog 12 pontagelaw3_awakeC := con_of_ev (E := env12) (envOk tysOk eqsOk (show HowsOk Try.prog [(10, .con int256_DivFloorC), (13, .con int256_AddClampedC), (20, .con int256_ValidC), (23, .con int256_FromInt64C)] from (And.intro ok10 (And.intro ok13 (And.intro ok20 (And.intro ok23 trivial))))) follows) noOddP fun x y h => ⟨ann12, 60, K0, (ev12 x).trans h⟩
/-- pontage/pontagelaw3.Int256DivFloor -/
noncomputable def pontagelaw3_Int256DivFloorC : Con := ⟨_, _, pontagelaw3_Int256DivFloor⟩
noncomputable def env3 : Env := mkEnv Try.prog tys eqs [(10, .con int256_DivFloorC), (11, .con pontageref3_DivFloor256C), (12, .con pontagelaw3_awakeC)]
def ann3 : Anns := fun _ _ => none
theorem ev3 : ∀ x, evalFn env3 ann3 3 ⟨[.pl (.cons .bool (.cons (.arr 4 (.int .u64)) .nil)), .pl (.arr 4 (.int .u64)), .pl (.int .u64)], []⟩ ⟨[.pl .bool], []⟩ 60 K0 x = pontagelaw3_Int256DivFloor x := by intro x; kernel_rfl
theorem ok3 : ConOk Try.prog 3 pontagelaw3_Int256DivFloorC := con_of_ev (E := env3) (envOk tysOk eqsOk (show HowsOk Try.prog [(10, .con int256_DivFloorC), (11, .con pontageref3_DivFloor256C), (12, .con pontagelaw3_awakeC)] from (And.intro ok10 (And.intro ok11 (And.intro ok12 trivial)))) follows) noOddP fun x y h => ⟨ann3, 60, K0, (ev3 x).trans h⟩
/-- pontage/pontageref3.Add -/
noncomputable def pontageref3_AddC : Con := ⟨_, _, pontageref3_Add⟩
noncomputable def env39 : Env := mkEnv Try.prog tys eqs [(40, .con pontageref3_signC), (50, .con pontageref1_AddC), (54, .con pontageref1_CmpC), (55, .con pontageref1_SubC)]
def ann39 : Anns := fun _ _ => none
theorem ev39 : ∀ x, evalFn env39 ann39 39 ⟨[.pl (.cons .bool (.cons (.sl (.int .i64)) .nil)), .pl (.cons .bool (.cons (.sl (.int .i64)) .nil))], []⟩ ⟨[.pl (.cons .bool (.cons (.sl (.int .i64)) .nil))], []⟩ 60 K0 x = pontageref3_Add x := by intro x; kernel_rfl
theorem ok39 : ConOk Try.prog 39 pontageref3_AddC := con_of_ev (E := env39) (envOk tysOk eqsOk (show HowsOk Try.prog [(40, .con pontageref3_signC), (50, .con pontageref1_AddC), (54, .con pontageref1_CmpC), (55, .con pontageref1_SubC)] from (And.intro ok40 (And.intro ok50 (And.intro ok54 (And.intro ok55 trivial))))) follows) noOddP fun x y h => ⟨ann39, 60, K0, (ev39 x).trans h⟩
/-- pontage/pontageref3.AddClamped -/
noncomputable def pontageref3_AddClampedC : Con := ⟨_, _, pontageref3_AddClamped⟩
noncomputable def env14 : Env := mkEnv Try.prog tys eqs [(18, .con pontageref3_ValidC), (36, .con pontageref3_FromInt256C), (37, .con pontageref1_FromUint256C), (39, .con pontageref3_AddC), (40, .con pontageref3_signC), (41, .con pontageref1_CheckedC)]
def ann14 : Anns := fun _ _ => none
theorem ev14 : ∀ x, evalFn env14 ann14 14 ⟨[.pl (.arr 4 (.int .u64)), .pl (.cons .bool (.cons (.arr 4 (.int .u64)) .nil))], []⟩ ⟨[.pl (.arr 4 (.int .u64)), .pl (.int .i64)], []⟩ 60 K0 x = pontageref3_AddClamped x := by intro x; kernel_rfl
theorem ok14 : ConOk Try.prog 14 pontageref3_AddClampedC := con_of_ev (E := env14) (envOk tysOk eqsOk (show HowsOk Try.prog [(18, .con pontageref3_ValidC), (36, .con pontageref3_FromInt256C), (37, .con pontageref1_FromUint256C), (39, .con pontageref3_AddC), (40, .con pontageref3_signC), (41, .con pontageref1_CheckedC)] from (And.intro ok18 (And.intro ok36 (And.intro ok37 (And.intro ok39 (And.intro ok40 (And.intro ok41 trivial))))))) follows) noOddP fun x y h => ⟨ann14, 60, K0, (ev14 x).trans h⟩
/-- pontage/int256.Diff -/
noncomputable def int256_DiffC : Con := ⟨_, _, int256_Diff⟩
noncomputable def env15 : Env := mkEnv Try.prog tys eqs [(19, .con int256_NewC), (38, .con uint256_SaturatingSubC), (42, .con uint256_CmpC)]
def ann15 : Anns := fun _ _ => none
theorem ev15 : ∀ x, evalFn env15 ann15 15 ⟨[.pl (.arr 4 (.int .u64)), .pl (.arr 4 (.int .u64))], []⟩ ⟨[.pl (.cons .bool (.cons (.arr 4 (.int .u64)) .nil))], []⟩ 60 K0 x = int256_Diff x := by intro x; kernel_rfl
theorem ok15 : ConOk Try.prog 15 int256_DiffC := con_of_ev (E := env15) (envOk tysOk eqsOk (show HowsOk Try.prog [(19, .con int256_NewC), (38, .con uint256_SaturatingSubC), (42, .con uint256_CmpC)] from (And.intro ok19 (And.intro ok38 (And.intro ok42 trivial)))) follows) noOddP fun x y h => ⟨ann15, 60, K0, (ev15 x).trans h⟩
/-- pontage/pontageref3.Diff -/
noncomputable def pontageref3_DiffC : Con := ⟨_, _, pontageref3_Diff⟩
noncomputable def env16 : Env := mkEnv Try.prog tys eqs [(34, .con pontageref3_CheckedC), (37, .con pontageref1_FromUint256C), (39, .con pontageref3_AddC), (40, .con pontageref3_signC)]
def ann16 : Anns := fun _ _ => none
theorem ev16 : ∀ x, evalFn env16 ann16 16 ⟨[.pl (.arr 4 (.int .u64)), .pl (.arr 4 (.int .u64))], []⟩ ⟨[.pl (.cons .bool (.cons (.arr 4 (.int .u64)) .nil))], []⟩ 60 K0 x = pontageref3_Diff x := by intro x; kernel_rfl
theorem ok16 : ConOk Try.prog 16 pontageref3_DiffC := con_of_ev (E := env16) (envOk tysOk eqsOk (show HowsOk Try.prog [(34, .con pontageref3_CheckedC), (37, .con pontageref1_FromUint256C), (39, .con pontageref3_AddC), (40, .con pontageref3_signC)] from (And.intro ok34 (And.intro ok37 (And.intro ok39 (And.intro ok40 trivial))))) follows) noOddP fun x y h => ⟨ann16, 60, K0, (ev16 x).trans h⟩
/-- pontage/pontagelaw3.Int256DiffAddClamped -/
noncomputable def pontagelaw3_Int256DiffAddClampedC : Con := ⟨_, _, pontagelaw3_Int256DiffAddClamped⟩
noncomputable def env4 : Env := mkEnv Try.prog tys eqs [(12, .con pontagelaw3_awakeC), (13, .con int256_AddClampedC), (14, .con pontageref3_AddClampedC), (15, .con int256_DiffC), (16, .con pontageref3_DiffC)]
def ann4 : Anns := fun _ _ => none
theorem ev4 : ∀ x, evalFn env4 ann4 4 ⟨[.pl (.arr 4 (.int .u64)), .pl (.arr 4 (.int .u64)), .pl (.cons .bool (.cons (.arr 4 (.int .u64)) .nil))], []⟩ ⟨[.pl .bool], []⟩ 60 K0 x = pontagelaw3_Int256DiffAddClamped x := by intro x; kernel_rfl
theorem ok4 : ConOk Try.prog 4 pontagelaw3_Int256DiffAddClampedC := con_of_ev (E := env4) (envOk tysOk eqsOk (show HowsOk Try.prog [(12, .con pontagelaw3_awakeC), (13, .con int256_AddClampedC), (14, .con pontageref3_AddClampedC), (15, .con int256_DiffC), (16, .con pontageref3_DiffC)] from (And.intro ok12 (And.intro ok13 (And.intro ok14 (And.intro ok15 (And.intro ok16 trivial)))))) follows) noOddP fun x y h => ⟨ann4, 60, K0, (ev4 x).trans h⟩
/-- pontage/int256.Neg -/
noncomputable def int256_NegC : Con := ⟨_, _, int256_Neg⟩
noncomputable def env17 : Env := mkEnv Try.prog tys eqs [(19, .con int256_NewC), (20, .con int256_ValidC)]
def ann17 : Anns := fun _ _ => none
theorem ev17 : ∀ x, evalFn env17 ann17 17 ⟨[.pl (.cons .bool (.cons (.arr 4 (.int .u64)) .nil))], []⟩ ⟨[.pl (.cons .bool (.cons (.arr 4 (.int .u64)) .nil)), .pl (.int .i64)], []⟩ 60 K0 x = int256_Neg x := by intro x; kernel_rfl
theorem ok17 : ConOk Try.prog 17 int256_NegC := con_of_ev (E := env17) (envOk tysOk eqsOk (show HowsOk Try.prog [(19, .con int256_NewC), (20, .con int256_ValidC)] from (And.intro ok19 (And.intro ok20 trivial))) follows) noOddP fun x y h => ⟨ann17, 60, K0, (ev17 x).trans h⟩
/-- pontage/int256.Cmp -/
noncomputable def int256_CmpC : Con := ⟨_, _, int256_Cmp⟩
noncomputable def env21 : Env := mkEnv Try.prog tys eqs [(20, .con int256_ValidC), (42, .con uint256_CmpC)]
def ann21 : Anns := fun p c => match p, c with | [1000000, 21], 3 => some (.join ⟨[.dead, .dead, .ptr 0 [], .ptr 1 [], .dead, .pl .bool, .dead, .dead, .dead, .dead, .dead, .dead, .dead, .dead, .dead, .dead, .dead, .dead, .dead, .dead, .dead, .dead, .dead, .dead, .dead, .dead, .dead, .dead, .dead, .dead, .dead, .dead, .dead, .dead, .dead, .dead, .dead], [.box (.cons .bool (.cons (.arr 4 (.int .u64)) .nil)) (.pl (.cons .bool (.cons (.arr 4 (.int .u64)) .nil))), .box (.cons .bool (.cons (.arr 4 (.int .u64)) .nil)) (.pl (.cons .bool (.cons (.arr 4 (.int .u64)) .nil)))]⟩) | [1000000, 21], 5 => some (.join ⟨[.dead, .dead, .ptr 0 [], .ptr 1 [], .dead, .dead, .dead, .dead, .dead, .dead, .dead, .dead, .dead, .dead, .pl .bool, .dead, .dead, .dead, .dead, .dead, .dead, .dead, .dead, .dead, .dead, .dead, .dead, .dead, .dead, .dead, .dead, .dead, .dead, .dead, .dead, .dead, .dead], [.box (.cons .bool (.cons (.arr 4 (.int .u64)) .nil)) (.pl (.cons .bool (.cons (.arr 4 (.int .u64)) .nil))), .box (.cons .bool (.cons (.arr 4 (.int .u64)) .nil)) (.pl (.cons .bool (.cons (.arr 4 (.int .u64)) .nil)))]⟩) | _, _ => none
theorem ev21 : ∀ x, evalFn env21 ann21 21 ⟨[.pl (.cons .bool (.cons (.arr 4 (.int .u64)) .nil)), .pl (.cons .bool (.cons (.arr 4 (.int .u64)) .nil))], []⟩ ⟨[.pl (.int .i64)], []⟩ 60 K0 x = int256_Cmp x := by intro x; kernel_rfl
theorem ok21 : ConOk Try.prog 21 int256_CmpC := con_of_ev (E := env21) (envOk tysOk eqsOk (show HowsOk Try.prog [(20, .con int256_ValidC), (42, .con uint256_CmpC)] from (And.intro ok20 (And.intro ok42 trivial))) follows) noOddP fun x y h => ⟨ann21, 60, K0, (ev21 x).trans h⟩
/-- pontage/pontageref3.Negate -/
noncomputable def pontageref3_NegateC : Con := ⟨_, _, pontageref3_Negate⟩
noncomputable def env43 : Env := mkEnv Try.prog tys eqs [(40, .con pontageref3_signC)]
def ann43 : Anns := fun _ _ => none
theorem ev43 : ∀ x, evalFn env43 ann43 43 ⟨[.pl (.cons .bool (.cons (.sl (.int .i64)) .nil))], []⟩ ⟨[.pl (.cons .bool (.cons (.sl (.int .i64)) .nil))], []⟩ 60 K0 x = pontageref3_Negate x := by intro x; kernel_rfl
theorem ok43 : ConOk Try.prog 43 pontageref3_NegateC := con_of_ev (E := env43) (envOk tysOk eqsOk (show HowsOk Try.prog [(40, .con pontageref3_signC)] from (And.intro ok40 trivial)) follows) noOddP fun x y h => ⟨ann43, 60, K0, (ev43 x).trans h⟩
/-- pontage/pontageref3.Cmp -/
noncomputable def pontageref3_CmpC : Con := ⟨_, _, pontageref3_Cmp⟩
noncomputable def env22 : Env := mkEnv Try.prog tys eqs [(18, .con pontageref3_ValidC), (36, .con pontageref3_FromInt256C), (39, .con pontageref3_AddC), (43, .con pontageref3_NegateC)]
def ann22 : Anns := fun p c => match p, c with | [1000000, 22], 4 => some (.join ⟨[.dead, .dead, .ptr 0 [], .ptr 1 [], .dead, .dead, .dead, .dead, .dead, .dead, .dead, .dead, .dead, .dead, .dead, .dead, .dead, .dead, .dead, .dead, .dead, .dead, .dead, .dead, .dead, .dead], [.box (.cons .bool (.cons (.arr 4 (.int .u64)) .nil)) (.pl (.cons .bool (.cons (.arr 4 (.int .u64)) .nil))), .box (.cons .bool (.cons (.arr 4 (.int .u64)) .nil)) (.pl (.cons .bool (.cons (.arr 4 (.int .u64)) .nil)))]⟩) | _, _ => none
theorem ev22 : ∀ x, evalFn env22 ann22 22 ⟨[.pl (.cons .bool (.cons (.arr 4 (.int .u64)) .nil)), .pl (.cons .bool (.cons (.arr 4 (.int .u64)) .nil))], []⟩ ⟨[.pl (.int .i64)], []⟩ 60 K0 x = pontageref3_Cmp x := by intro x; kernel_rfl
theorem ok22 : ConOk Try.prog 22 pontageref3_CmpC := con_of_ev (E := env22) (envOk tysOk eqsOk (show HowsOk Try.prog [(18, .con pontageref3_ValidC), (36, .con pontageref3_FromInt256C), (39, .con pontageref3_AddC), (43, .con pontageref3_NegateC)] from (And.intro ok18 (And.intro ok36 (And.intro ok39 (And.intro ok43 trivial))))) follows) noOddP fun x y h => ⟨ann22, 60, K0, (ev22 x).trans h⟩
/-- pontage/pontageref3.FromInt64 -/
noncomputable def pontageref3_FromInt64C : Con := ⟨_, _, pontageref3_FromInt64⟩
noncomputable def env24 : Env := mkEnv Try.prog tys eqs []
def ann24 : Anns := fun _ _ => none
theorem ev24 : ∀ x, evalFn env24 ann24 24 ⟨[.pl (.int .i64)], []⟩ ⟨[.pl (.cons .bool (.cons (.arr 4 (.int .u64)) .nil))], []⟩ 60 K0 x = pontageref3_FromInt64 x := by intro x; kernel_rfl
theorem ok24 : ConOk Try.prog 24 pontageref3_FromInt64C := con_of_ev (E := env24) (envOk tysOk eqsOk (show HowsOk Try.prog [] from trivial) follows) noOddP fun x y h => ⟨ann24, 60, K0, (ev24 x).trans h⟩
/-- pontage/pontagelaw3.Int256Order -/
noncomputable def pontagelaw3_Int256OrderC : Con := ⟨_, _, pontagelaw3_Int256Order⟩
noncomputable def env5 : Env := mkEnv Try.prog tys eqs [(12, .con pontagelaw3_awakeC), (17, .con int256_NegC), (18, .con pontageref3_ValidC), (19, .con int256_NewC), (20, .con int256_ValidC), (21, .con int256_CmpC), (22, .con pontageref3_CmpC), (23, .con int256_FromInt64C), (24, .con pontageref3_FromInt64C)]
def ann5 : Anns := fun p c => match p, c with | [1000000, 5], 5 => some (.join ⟨[.dead, .dead, .pl (.int .i64), .pl .bool, .ptr 0 [], .ptr 1 [], .dead, .dead, .dead, .ptr 2 [], .pl (.int .i64), .ptr 3 [], .dead, .dead, .dead, .dead, .dead, .dead, .dead, .dead, .dead, .dead, .dead, .dead, .dead, .dead, .dead, .dead, .dead, .dead, .dead, .dead, .dead, .dead, .dead, .dead, .dead, .dead, .dead, .dead, .dead, .dead, .dead, .dead, .dead, .dead, .dead, .dead, .dead, .dead, .dead, .dead, .dead, .dead, .dead, .dead, .dead, .dead, .dead, .dead, .dead, .dead, .dead, .dead, .dead, .dead, .dead, .dead, .dead, .dead, .dead, .dead, .dead, .dead, .dead, .dead, .dead, .dead, .dead, .dead, .dead, .dead, .dead, .dead, .dead, .dead, .dead, .dead, .dead, .dead, .dead, .dead, .dead, .dead, .dead, .dead, .dead], [.box (.cons .bool (.cons (.arr 4 (.int .u64)) .nil)) (.pl (.cons .bool (.cons (.arr 4 (.int .u64)) .nil))), .box (.cons .bool (.cons (.arr 4 (.int .u64)) .nil)) (.pl (.cons .bool (.cons (.arr 4 (.int .u64)) .nil))), .box (.cons .bool (.cons (.arr 4 (.int .u64)) .nil)) (.pl (.cons .bool (.cons (.arr 4 (.int .u64)) .nil))), .box (.cons .bool (.cons (.arr 4 (.int .u64)) .nil)) (.pl (.cons .bool (.cons (.arr 4 (.int .u64)) .nil)))]⟩) | [1000000, 5], 9 => some (.join ⟨[.dead, .dead, .pl (.int .i64), .pl .bool, .ptr 0 [], .ptr 1 [], .dead, .dead, .dead, .dead, .dead, .dead, .dead, .dead, .dead, .dead, .dead, .dead, .dead, .dead, .dead, .dead, .dead, .dead, .dead, .dead, .dead, .dead, .dead, .dead, .dead, .dead, .dead, .dead, .dead, .dead, .dead, .dead, .dead, .dead, .dead, .dead, .dead, .dead, .dead, .dead, .dead, .dead, .dead, .dead, .dead, .dead, .dead, .dead, .dead, .dead, .dead, .dead, .dead, .dead, .dead, .dead, .dead, .dead, .dead, .dead, .dead, .dead, .dead, .dead, .dead, .dead, .dead, .dead, .dead, .dead, .dead, .dead, .dead, .dead, .dead, .dead, .dead, .dead, .dead, .dead, .dead, .dead, .dead, .dead, .dead, .dead, .dead, .dead, .dead, .dead, .dead], [.box (.cons .bool (.cons (.arr 4 (.int .u64)) .nil)) (.pl (.cons .bool (.cons (.arr 4 (.int .u64)) .nil))), .box (.cons .bool (.cons (.arr 4 (.int .u64)) .nil)) (.pl (.cons .bool (.cons (.arr 4 (.int .u64)) .nil)))]⟩) | _, _ => none
theorem ev5 : ∀ x, evalFn env5 ann5 5 ⟨[.pl (.cons .bool (.cons (.arr 4 (.int .u64)) .nil)), .pl (.cons .bool (.cons (.arr 4 (.int .u64)) .nil)), .pl (.int .i64), .pl .bool], []⟩ ⟨[.pl .bool], []⟩ 60 K0 x = pontagelaw3_Int256Order x := by intro x; kernel_rfl
theorem ok5 : ConOk Try.prog 5 pontagelaw3_Int256OrderC := con_of_ev (E := env5) (envOk tysOk eqsOk (show HowsOk Try.prog [(12, .con pontagelaw3_awakeC), (17, .con int256_NegC), (18, .con pontageref3_ValidC), (19, .con int256_NewC), (20, .con int256_ValidC), (21, .con int256_CmpC), (22, .con pontageref3_CmpC), (23, .con int256_FromInt64C), (24, .con pontageref3_FromInt64C)] from (And.intro ok12 (And.intro ok17 (And.intro ok18 (And.intro ok19 (And.intro ok20 (And.intro ok21 (And.intro ok22 (And.intro ok23 (And.intro ok24 trivial)))))))))) follows) noOddP fun x y h => ⟨ann5, 60, K0, (ev5 x).trans h⟩
/-- pontage/int256.Add -/
noncomputable def int256_AddC : Con := ⟨_, _, int256_Add⟩
noncomputable def env25 : Env := mkEnv Try.prog tys eqs [(15, .con int256_DiffC), (19, .con int256_NewC), (20, .con int256_ValidC), (31, .con uint256_AddC)]
def ann25 : Anns := fun p c => match p, c with | [1000000, 25], 4 => some (.join ⟨[.dead, .dead, .ptr 0 [], .ptr 1 [], .ptr 2 [], .dead, .dead, .dead, .dead, .dead, .dead, .dead, .dead, .dead, .dead, .dead, .dead, .dead, .dead, .dead, .dead, .dead, .dead, .dead, .dead, .dead, .dead, .dead, .dead, .dead, .dead, .dead, .dead, .dead, .dead, .dead, .dead, .dead, .dead, .dead, .dead, .dead, .dead, .dead, .dead, .dead, .dead, .dead, .dead, .dead], [.box (.cons .bool (.cons (.arr 4 (.int .u64)) .nil)) (.pl (.cons .bool (.cons (.arr 4 (.int .u64)) .nil))), .box (.cons .bool (.cons (.arr 4 (.int .u64)) .nil)) (.pl (.cons .bool (.cons (.arr 4 (.int .u64)) .nil))), .box (.cons .bool (.cons (.arr 4 (.int .u64)) .nil)) (.pl (.cons .bool (.cons (.arr 4 (.int .u64)) .nil)))]⟩) | _, _ => none
theorem ev25 : ∀ x, evalFn env25 ann25 25 ⟨[.pl (.cons .bool (.cons (.arr 4 (.int .u64)) .nil)), .pl (.cons .bool (.cons (.arr 4 (.int .u64)) .nil))], []⟩ ⟨[.pl (.cons .bool (.cons (.arr 4 (.int .u64)) .nil)), .pl (.int .i64)], []⟩ 60 K0 x = int256_Add x := by intro x; kernel_rfl
theorem ok25 : ConOk Try.prog 25 int256_AddC := con_of_ev (E := env25) (envOk tysOk eqsOk (show HowsOk Try.prog [(15, .con int256_DiffC), (19, .con int256_NewC), (20, .con int256_ValidC), (31, .con uint256_AddC)] from (And.intro ok15 (And.intro ok19 (And.intro ok20 (And.intro ok31 trivial))))) follows) noOddP fun x y h => ⟨ann25, 60, K0, (ev25 x).trans h⟩
/-- pontage/pontageref1.Mul -/
noncomputable def pontageref1_MulC : Con := ⟨_, _, pontageref1_Mul⟩
noncomputable def env58 : Env := mkEnv Try.prog tys eqs [(52, .con pontageref1_normC)]
def ann58 : Anns := fun p c => match p, c with | [58], 0 => some (.tmpl ⟨[.pl (.sl (.int .i64)), .pl (.sl (.int .i64)), .dead, .dead, .dead, .whole 0, .pl (.int .i64), .dead, .dead, .dead, .dead, .dead, .dead, .dead, .dead, .dead, .dead, .dead, .dead, .dead, .dead, .dead, .dead, .dead, .dead, .dead, .dead, .dead, .dead, .dead, .dead, .dead, .dead, .dead, .dead, .dead, .dead, .dead, .dead, .dead, .dead, .dead, .dead, .dead, .dead, .dead, .dead, .dead, .dead, .dead, .dead, .dead, .dead, .dead, .dead, .dead, .dead, .dead, .dead, .dead, .dead, .dead, .dead], [.row (.int .i64)]⟩) | [58], 2 => some (.tmpl ⟨[.pl (.sl (.int .i64)), .pl (.sl (.int .i64)), .dead, .dead, .dead, .whole 0, .pl (.int .i64), .pl (.int .i64), .pl (.int .i64), .dead, .dead, .dead, .dead, .dead, .dead, .dead, .dead, .dead, .dead, .dead, .dead, .dead, .dead, .dead, .dead, .dead, .dead, .dead, .dead, .dead, .dead, .dead, .dead, .dead, .dead, .dead, .dead, .dead, .dead, .dead, .dead, .dead, .dead, .dead, .dead, .dead, .dead, .dead, .dead, .dead, .dead, .dead, .dead, .dead, .dead, .dead, .dead, .dead, .dead, .dead, .dead, .dead, .dead], [.row (.int .i64)]⟩) | _, _ => none
theorem ev58 : ∀ x, evalFn env58 ann58 58 ⟨[.pl (.sl (.int .i64)), .pl (.sl (.int .i64))], []⟩ ⟨[.pl (.sl (.int .i64))], []⟩ 60 K0 x = pontageref1_Mul x := by intro x; kernel_rfl
theorem ok58 : ConOk Try.prog 58 pontageref1_MulC := con_of_ev (E := env58) (envOk tysOk eqsOk (show HowsOk Try.prog [(52, .con pontageref1_normC)] from (And.intro ok52 trivial)) follows) noOddP fun x y h => ⟨ann58, 60, K0, (ev58 x).trans h⟩
/-- pontage/pontageref3.Mul -/
noncomputable def pontageref3_MulC : Con := ⟨_, _, pontageref3_Mul⟩
noncomputable def env44 : Env := mkEnv Try.prog tys eqs [(40, .con pontageref3_signC), (58, .con pontageref1_MulC)]
def ann44 : Anns := fun _ _ => none
theorem ev44 : ∀ x, evalFn env44 ann44 44 ⟨[.pl (.cons .bool (.cons (.sl (.int .i64)) .nil)), .pl (.cons .bool (.cons (.sl (.int .i64)) .nil))], []⟩ ⟨[.pl (.cons .bool (.cons (.sl (.int .i64)) .nil))], []⟩ 60 K0 x = pontageref3_Mul x := by intro x; kernel_rfl
theorem ok44 : ConOk Try.prog 44 pontageref3_MulC := con_of_ev (E := env44) (envOk tysOk eqsOk (show HowsOk Try.prog [(40, .con pontageref3_signC), (58, .con pontageref1_MulC)] from (And.intro ok40 (And.intro ok58 trivial))) follows) noOddP fun x y h => ⟨ann44, 60, K0, (ev44 x).trans h⟩
/-- pontage/pontageref3.Binary -/
noncomputable def pontageref3_BinaryC : Con := ⟨_, _, pontageref3_Binary⟩
noncomputable def env26 : Env := mkEnv Try.prog tys eqs [(18, .con pontageref3_ValidC), (34, .con pontageref3_CheckedC), (36, .con pontageref3_FromInt256C), (39, .con pontageref3_AddC), (43, .con pontageref3_NegateC), (44, .con pontageref3_MulC)]
def ann26 : Anns := fun p c => match p, c with | [1000000, 26], 4 => some (.join ⟨[.pl (.int .i64), .dead, .dead, .dead, .ptr 0 [], .ptr 1 [], .ptr 2 [], .dead, .dead, .dead, .dead, .dead, .dead, .dead, .dead, .dead, .dead, .dead, .dead, .dead, .dead, .dead, .dead, .dead, .dead, .dead, .dead, .dead, .dead, .dead, .dead, .dead, .dead, .dead, .dead, .dead, .dead, .dead, .dead, .dead, .dead], [.box (.cons .bool (.cons (.arr 4 (.int .u64)) .nil)) (.pl (.cons .bool (.cons (.arr 4 (.int .u64)) .nil))), .box (.cons .bool (.cons (.arr 4 (.int .u64)) .nil)) (.pl (.cons .bool (.cons (.arr 4 (.int .u64)) .nil))), .box (.cons .bool (.cons (.arr 4 (.int .u64)) .nil)) (.pl (.cons .bool (.cons (.arr 4 (.int .u64)) .nil)))]⟩) | [1000000, 26], 9 => some (.join ⟨[.dead, .dead, .dead, .dead, .dead, .dead, .ptr 0 [], .dead, .ptr 1 [], .ptr 2 [], .dead, .dead, .dead, .dead, .dead, .dead, .dead, .dead, .dead, .dead, .dead, .dead, .dead, .dead, .dead, .dead, .dead, .dead, .dead, .dead, .dead, .dead, .dead, .dead, .dead, .dead, .dead, .dead, .dead, .dead, .dead], [.box (.cons .bool (.cons (.arr 4 (.int .u64)) .nil)) (.pl (.cons .bool (.cons (.arr 4 (.int .u64)) .nil))), .box (.cons .bool (.cons (.sl (.int .i64)) .nil)) (.pl (.cons .bool (.cons (.sl (.int .i64)) .nil))), .box (.cons .bool (.cons (.sl (.int .i64)) .nil)) (.pl (.cons .bool (.cons (.sl (.int .i64)) .nil)))]⟩) | _, _ => none
theorem ev26 : ∀ x, evalFn env26 ann26 26 ⟨[.pl (.int .i64), .pl (.cons .bool (.cons (.arr 4 (.int .u64)) .nil)), .pl (.cons .bool (.cons (.arr 4 (.int .u64)) .nil))], []⟩ ⟨[.pl (.cons .bool (.cons (.arr 4 (.int .u64)) .nil)), .pl (.int .i64)], []⟩ 60 K0 x = pontageref3_Binary x := by intro x; kernel_rfl
theorem ok26 : ConOk Try.prog 26 pontageref3_BinaryC := con_of_ev (E := env26) (envOk tysOk eqsOk (show HowsOk Try.prog [(18, .con pontageref3_ValidC), (34, .con pontageref3_CheckedC), (36, .con pontageref3_FromInt256C), (39, .con pontageref3_AddC), (43, .con pontageref3_NegateC), (44, .con pontageref3_MulC)] from (And.intro ok18 (And.intro ok34 (And.intro ok36 (And.intro ok39 (And.intro ok43 (And.intro ok44 trivial))))))) follows) noOddP fun x y h => ⟨ann26, 60, K0, (ev26 x).trans h⟩
/-- pontage/int256.Sub -/
noncomputable def int256_SubC : Con := ⟨_, _, int256_Sub⟩
noncomputable def env27 : Env := mkEnv Try.prog tys eqs [(17, .con int256_NegC), (20, .con int256_ValidC), (25, .con int256_AddC)]
def ann27 : Anns := fun p c => match p, c with | [1000000, 27], 5 => some (.join ⟨[.dead, .dead, .ptr 0 [], .dead, .ptr 1 [], .dead, .ptr 2 [], .dead, .dead, .dead, .dead, .dead, .dead, .dead, .dead, .dead, .dead, .dead, .dead, .dead, .dead, .dead, .dead, .dead, .dead, .dead], [.box (.cons .bool (.cons (.arr 4 (.int .u64)) .nil)) (.pl (.cons .bool (.cons (.arr 4 (.int .u64)) .nil))), .box (.cons .bool (.cons (.arr 4 (.int .u64)) .nil)) (.pl (.cons .bool (.cons (.arr 4 (.int .u64)) .nil))), .box (.cons .bool (.cons (.arr 4 (.int .u64)) .nil)) (.pl (.cons .bool (.cons (.arr 4 (.int .u64)) .nil)))]⟩) | _, _ => none
theorem ev27 : ∀ x, evalFn env27 ann27 27 ⟨[.pl (.cons .bool (.cons (.arr 4 (.int .u64)) .nil)), .pl (.cons .bool (.cons (.arr 4 (.int .u64)) .nil))], []⟩ ⟨[.pl (.cons .bool (.cons (.arr 4 (.int .u64)) .nil)), .pl (.int .i64)], []⟩ 60 K0 x = int256_Sub x := by intro x; kernel_rfl
theorem ok27 : ConOk Try.prog 27 int256_SubC := con_of_ev (E := env27) (envOk tysOk eqsOk (show HowsOk Try.prog [(17, .con int256_NegC), (20, .con int256_ValidC), (25, .con int256_AddC)] from (And.intro ok17 (And.intro ok20 (And.intro ok25 trivial)))) follows) noOddP fun x y h => ⟨ann27, 60, K0, (ev27 x).trans h⟩
/-- math/bits.Mul64 -/
noncomputable def math_bits_Mul64C : Con := ⟨_, _, math_bits_Mul64⟩
noncomputable def env59 : Env := mkEnv Try.prog tys eqs []
def ann59 : Anns := fun _ _ => none
theorem ev59 : ∀ x, evalFn env59 ann59 59 ⟨[.pl (.int .u64), .pl (.int .u64)], []⟩ ⟨[.pl (.int .u64), .pl (.int .u64)], []⟩ 60 K0 x = math_bits_Mul64 x := by intro x; kernel_rfl
theorem ok59 : ConOk Try.prog 59 math_bits_Mul64C := con_of_ev (E := env59) (envOk tysOk eqsOk (show HowsOk Try.prog [] from trivial) follows) noOddP fun x y h => ⟨ann59, 60, K0, (ev59 x).trans h⟩
/-- pontage/uint256.Mul -/
noncomputable def uint256_MulC : Con := ⟨_, _, uint256_Mul⟩
noncomputable def env45 : Env := mkEnv Try.prog tys eqs [(48, .con add64C), (59, .con math_bits_Mul64C)]
def ann45 : Anns := fun p c => match p, c with | [45], 0 => some (.tmpl ⟨[.dead, .dead, .ptr 0 [], .ptr 1 [], .ptr 2 [], .dead, .ptr 3 [], .dead, .dead, .dead, .dead, .dead, .dead, .pl (.int .i64), .dead, .dead, .dead, .dead, .dead, .dead, .dead, .dead, .dead, .dead, .dead, .dead, .dead, .dead, .dead, .dead, .dead, .dead, .dead, .dead, .dead, .dead, .dead, .dead, .dead, .dead, .dead, .dead, .dead, .dead, .dead, .dead, .dead, .dead, .dead, .dead, .dead, .dead, .dead, .dead, .dead, .dead, .dead, .dead, .dead, .dead, .dead, .dead, .dead, .dead, .dead, .dead, .dead, .dead, .dead, .dead], [.box (.arr 4 (.int .u64)) (.pl (.arr 4 (.int .u64))), .box (.arr 4 (.int .u64)) (.pl (.arr 4 (.int .u64))), .box (.arr 4 (.int .u64)) (.pl (.arr 4 (.int .u64))), .box (.arr 4 (.int .u64)) (.pl (.arr 4 (.int .u64)))]⟩) | [45], 2 => some (.tmpl ⟨[.dead, .dead, .ptr 0 [], .ptr 1 [], .ptr 2 [], .dead, .ptr 3 [], .pl (.int .i64), .pl (.int .u64), .dead, .dead, .dead, .dead, .pl (.int .i64), .dead, .dead, .pl (.int .i64), .dead, .dead, .dead, .dead, .dead, .dead, .dead, .dead, .dead, .dead, .dead, .dead, .dead, .dead, .dead, .dead, .dead, .dead, .dead, .dead, .dead, .dead, .dead, .dead, .dead, .dead, .dead, .dead, .dead, .dead, .dead, .dead, .dead, .dead, .dead, .dead, .dead, .dead, .dead, .dead, .dead, .dead, .dead, .dead, .dead, .dead, .dead, .dead, .dead, .dead, .dead, .dead, .dead], [.box (.arr 4 (.int .u64)) (.pl (.arr 4 (.int .u64))), .box (.arr 4 (.int .u64)) (.pl (.arr 4 (.int .u64))), .box (.arr 4 (.int .u64)) (.pl (.arr 4 (.int .u64))), .box (.arr 4 (.int .u64)) (.pl (.arr 4 (.int .u64)))]⟩) | _, _ => none
theorem ev45 : ∀ x, evalFn env45 ann45 45 ⟨[.pl (.arr 4 (.int .u64)), .pl (.arr 4 (.int .u64))], []⟩ ⟨[.pl (.arr 4 (.int .u64)), .pl (.int .i64)], []⟩ 60 K0 x = uint256_Mul x := by intro x; kernel_rfl
theorem ok45 : ConOk Try.prog 45 uint256_MulC := con_of_ev (E := env45) (envOk tysOk eqsOk (show HowsOk Try.prog [(48, .con add64C), (59, .con math_bits_Mul64C)] from (And.intro ok48 (And.intro ok59 trivial))) follows) noOddP fun x y h => ⟨ann45, 60, K0, (ev45 x).trans h⟩
/-- pontage/int256.Mul -/
noncomputable def int256_MulC : Con := ⟨_, _, int256_Mul⟩
noncomputable def env28 : Env := mkEnv Try.prog tys eqs [(19, .con int256_NewC), (20, .con int256_ValidC), (45, .con uint256_MulC)]
def ann28 : Anns := fun p c => match p, c with | [1000000, 28], 4 => some (.join ⟨[.dead, .dead, .ptr 0 [], .ptr 1 [], .ptr 2 [], .dead, .dead, .dead, .dead, .dead, .dead, .dead, .dead, .dead, .dead, .dead, .dead, .dead, .dead, .dead, .dead, .dead, .dead, .dead, .dead, .dead, .dead, .dead, .dead, .dead, .dead, .dead, .dead, .dead, .dead, .dead], [.box (.cons .bool (.cons (.arr 4 (.int .u64)) .nil)) (.pl (.cons .bool (.cons (.arr 4 (.int .u64)) .nil))), .box (.cons .bool (.cons (.arr 4 (.int .u64)) .nil)) (.pl (.cons .bool (.cons (.arr 4 (.int .u64)) .nil))), .box (.cons .bool (.cons (.arr 4 (.int .u64)) .nil)) (.pl (.cons .bool (.cons (.arr 4 (.int .u64)) .nil)))]⟩) | _, _ => none
theorem ev28 : ∀ x, evalFn env28 ann28 28 ⟨[.pl (.cons .bool (.cons (.arr 4 (.int .u64)) .nil)), .pl (.cons .bool (.cons (.arr 4 (.int .u64)) .nil))], []⟩ ⟨[.pl (.cons .bool (.cons (.arr 4 (.int .u64)) .nil)), .pl (.int .i64)], []⟩ 60 K0 x = int256_Mul x := by intro x; kernel_rfl
theorem ok28 : ConOk Try.prog 28 int256_MulC := con_of_ev (E := env28) (envOk tysOk eqsOk (show HowsOk Try.prog [(19, .con int256_NewC), (20, .con int256_ValidC), (45, .con uint256_MulC)] from (And.intro ok19 (And.intro ok20 (And.intro ok45 trivial)))) follows) noOddP fun x y h => ⟨ann28, 60, K0, (ev28 x).trans h⟩
/-- pontage/pontagelaw3.Int256Arithmetic -/
noncomputable def pontagelaw3_Int256ArithmeticC : Con := ⟨_, _, pontagelaw3_Int256Arithmetic⟩
noncomputable def env6 : Env := mkEnv Try.prog tys eqs [(12, .con pontagelaw3_awakeC), (25, .con int256_AddC), (26, .con pontageref3_BinaryC), (27, .con int256_SubC), (28, .con int256_MulC)]
def ann6 : Anns := fun _ _ => none
theorem ev6 : ∀ x, evalFn env6 ann6 6 ⟨[.pl (.cons .bool (.cons (.arr 4 (.int .u64)) .nil)), .pl (.cons .bool (.cons (.arr 4 (.int .u64)) .nil))], []⟩ ⟨[.pl .bool], []⟩ 60 K0 x = pontagelaw3_Int256Arithmetic x := by intro x; kernel_rfl
theorem ok6 : ConOk Try.prog 6 pontagelaw3_Int256ArithmeticC := con_of_ev (E := env6) (envOk tysOk eqsOk (show HowsOk Try.prog [(12, .con pontagelaw3_awakeC), (25, .con int256_AddC), (26, .con pontageref3_BinaryC), (27, .con int256_SubC), (28, .con int256_MulC)] from (And.intro ok12 (And.intro ok25 (And.intro ok26 (And.intro ok27 (And.intro ok28 trivial)))))) follows) noOddP fun x y h => ⟨ann6, 60, K0, (ev6 x).trans h⟩
/-- pontage/pontagelaw0.Mod -/
noncomputable def pontagelaw0_ModC : Con := ⟨_, _, pontagelaw0_Mod⟩
noncomputable def env46 : Env := mkEnv Try.prog tys eqs []
def ann46 : Anns := fun _ _ => none
theorem ev46 : ∀ x, evalFn env46 ann46 46 ⟨[.pl (.int .i64), .pl (.int .i64)], []⟩ ⟨[.pl (.int .i64)], []⟩ 60 K0 x = pontagelaw0_Mod x := by intro x; kernel_rfl
theorem ok46 : ConOk Try.prog 46 pontagelaw0_ModC := con_of_ev (E := env46) (envOk tysOk eqsOk (show HowsOk Try.prog [] from trivial) follows) noOddP fun x y h => ⟨ann46, 60, K0, (ev46 x).trans h⟩
/-- pontage/pontagelaw0.EdgeUint256 -/
noncomputable def pontagelaw0_EdgeUint256C : Con := ⟨_, _, pontagelaw0_EdgeUint256⟩
noncomputable def env29 : Env := mkEnv Try.prog tys eqs [(46, .con pontagelaw0_ModC)]
def ann29 : Anns := fun _ _ => none
theorem ev29 : ∀ x, evalFn env29 ann29 29 ⟨[.pl (.int .u64), .pl (.int .u64), .pl (.int .i64)], []⟩ ⟨[.pl (.arr 4 (.int .u64))], []⟩ 60 K0 x = pontagelaw0_EdgeUint256 x := by intro x; kernel_rfl
theorem ok29 : ConOk Try.prog 29 pontagelaw0_EdgeUint256C := con_of_ev (E := env29) (envOk tysOk eqsOk (show HowsOk Try.prog [(46, .con pontagelaw0_ModC)] from (And.intro ok46 trivial)) follows) noOddP fun x y h => ⟨ann29, 60, K0, (ev29 x).trans h⟩
/-- pontage/pontagelaw3.Int256Boundaries -/
noncomputable def pontagelaw3_Int256BoundariesC : Con := ⟨_, _, pontagelaw3_Int256Boundaries⟩
noncomputable def env7 : Env := mkEnv Try.prog tys eqs [(12, .con pontagelaw3_awakeC), (13, .con int256_AddClampedC), (14, .con pontageref3_AddClampedC), (19, .con int256_NewC), (25, .con int256_AddC), (26, .con pontageref3_BinaryC), (27, .con int256_SubC), (28, .con int256_MulC), (29, .con pontagelaw0_EdgeUint256C)]
def ann7 : Anns := fun _ _ => none
theorem ev7 : ∀ x, evalFn env7 ann7 7 ⟨[.pl (.int .u64), .pl (.int .u64), .pl (.int .i64), .pl (.int .i64), .pl .bool, .pl .bool], []⟩ ⟨[.pl .bool], []⟩ 60 K0 x = pontagelaw3_Int256Boundaries x := by intro x; kernel_rfl
theorem ok7 : ConOk Try.prog 7 pontagelaw3_Int256BoundariesC := con_of_ev (E := env7) (envOk tysOk eqsOk (show HowsOk Try.prog [(12, .con pontagelaw3_awakeC), (13, .con int256_AddClampedC), (14, .con pontageref3_AddClampedC), (19, .con int256_NewC), (25, .con int256_AddC), (26, .con pontageref3_BinaryC), (27, .con int256_SubC), (28, .con int256_MulC), (29, .con pontagelaw0_EdgeUint256C)] from (And.intro ok12 (And.intro ok13 (And.intro ok14 (And.intro ok19 (And.intro ok25 (And.intro ok26 (And.intro ok27 (And.intro ok28 (And.intro ok29 trivial)))))))))) follows) noOddP fun x y h => ⟨ann7, 60, K0, (ev7 x).trans h⟩
/-- pontage/pontagelaw3.Int256Negation -/
noncomputable def pontagelaw3_Int256NegationC : Con := ⟨_, _, pontagelaw3_Int256Negation⟩
noncomputable def env8 : Env := mkEnv Try.prog tys eqs [(12, .con pontagelaw3_awakeC), (17, .con int256_NegC), (20, .con int256_ValidC), (21, .con int256_CmpC), (25, .con int256_AddC), (28, .con int256_MulC)]
def ann8 : Anns := fun p c => match p, c with | [1000000, 8], 3 => some (.join ⟨[.dead, .dead, .ptr 0 [], .ptr 1 [], .dead, .dead, .dead, .dead, .dead, .dead, .dead, .dead, .dead, .dead, .dead, .dead, .dead, .dead, .dead, .dead, .dead, .dead, .dead, .dead, .dead, .dead, .dead, .dead, .pl .bool, .dead, .dead, .dead, .dead, .dead, .dead, .dead, .dead, .dead, .dead, .dead, .dead, .dead, .dead, .dead, .dead, .dead, .dead, .dead, .dead, .dead, .dead, .dead, .dead, .dead, .dead, .dead, .dead, .dead, .dead, .dead, .dead, .dead, .dead, .dead, .dead, .dead, .dead, .dead, .dead, .dead, .dead, .dead, .dead, .dead, .dead, .dead, .dead, .dead, .dead, .dead, .dead, .dead, .dead, .dead, .dead, .dead, .dead, .dead, .dead, .dead, .dead, .dead, .dead, .dead, .dead, .dead, .dead, .dead, .dead, .dead, .dead, .dead, .dead, .dead, .dead, .dead, .dead, .dead, .dead, .dead, .dead, .dead, .dead, .dead, .dead, .dead, .dead, .dead, .dead, .dead], [.box (.cons .bool (.cons (.arr 4 (.int .u64)) .nil)) (.pl (.cons .bool (.cons (.arr 4 (.int .u64)) .nil))), .box (.cons .bool (.cons (.arr 4 (.int .u64)) .nil)) (.pl (.cons .bool (.cons (.arr 4 (.int .u64)) .nil)))]⟩) | [1000000, 8], 4 => some (.join ⟨[.dead, .dead, .ptr 0 [], .ptr 1 [], .dead, .dead, .dead, .dead, .dead, .dead, .dead, .dead, .dead, .dead, .dead, .dead, .dead, .dead, .dead, .dead, .dead, .dead, .dead, .dead, .dead, .dead, .dead, .dead, .dead, .dead, .dead, .dead, .dead, .dead, .dead, .dead, .dead, .dead, .dead, .dead, .dead, .dead, .dead, .dead, .dead, .dead, .dead, .dead, .dead, .dead, .dead, .dead, .dead, .dead, .dead, .dead, .dead, .dead, .dead, .dead, .dead, .dead, .dead, .dead, .dead, .dead, .dead, .dead, .dead, .dead, .dead, .dead, .dead, .dead, .dead, .dead, .dead, .dead, .dead, .dead, .dead, .dead, .dead, .dead, .dead, .dead, .dead, .dead, .dead, .dead, .dead, .dead, .dead, .dead, .dead, .dead, .dead, .dead, .dead, .dead, .dead, .dead, .dead, .dead, .dead, .dead, .dead, .dead, .dead, .dead, .dead, .dead, .dead, .dead, .dead, .dead, .dead, .dead, .dead, .dead], [.box (.cons .bool (.cons (.arr 4 (.int .u64)) .nil)) (.pl (.cons .bool (.cons (.arr 4 (.int .u64)) .nil))), .box (.cons .bool (.cons (.arr 4 (.int .u64)) .nil)) (.pl (.cons .bool (.cons (.arr 4 (.int .u64)) .nil)))]⟩) | _, _ => none
theorem ev8 : ∀ x, evalFn env8 ann8 8 ⟨[.pl (.cons .bool (.cons (.arr 4 (.int .u64)) .nil)), .pl (.cons .bool (.cons (.arr 4 (.int .u64)) .nil))], []⟩ ⟨[.pl .bool], []⟩ 60 K0 x = pontagelaw3_Int256Negation x := by intro x; kernel_rfl
theorem ok8 : ConOk Try.prog 8 pontagelaw3_Int256NegationC := con_of_ev (E := env8) (envOk tysOk eqsOk (show HowsOk Try.prog [(12, .con pontagelaw3_awakeC), (17, .con int256_NegC), (20, .con int256_ValidC), (21, .con int256_CmpC), (25, .con int256_AddC), (28, .con int256_MulC)] from (And.intro ok12 (And.intro ok17 (And.intro ok20 (And.intro ok21 (And.intro ok25 (And.intro ok28 trivial))))))) follows) noOddP fun x y h => ⟨ann8, 60, K0, (ev8 x).trans h⟩
/-- pontage/pontagelaw3.Int256Algebra -/
noncomputable def pontagelaw3_Int256AlgebraC : Con := ⟨_, _, pontagelaw3_Int256Algebra⟩
noncomputable def env9 : Env := mkEnv Try.prog tys eqs [(10, .con int256_DivFloorC), (12, .con pontagelaw3_awakeC), (19, .con int256_NewC), (20, .con int256_ValidC), (21, .con int256_CmpC), (25, .con int256_AddC), (27, .con int256_SubC), (28, .con int256_MulC)]
def ann9 : Anns := fun p c => match p, c with | [1000000, 9], 3 => some (.join ⟨[.dead, .dead, .pl (.int .u64), .ptr 0 [], .ptr 1 [], .dead, .dead, .dead, .dead, .dead, .dead, .dead, .dead, .dead, .dead, .dead, .dead, .dead, .dead, .dead, .dead, .dead, .dead, .dead, .pl .bool, .dead, .dead, .dead, .dead, .dead, .dead, .dead, .dead, .dead, .dead, .dead, .dead, .dead, .dead, .dead, .dead, .dead, .dead, .dead, .dead, .dead, .dead, .dead, .dead, .dead, .dead, .dead, .dead, .dead, .dead, .dead, .dead, .dead, .dead, .dead, .dead, .dead, .dead, .dead, .dead, .dead, .dead, .dead, .dead, .dead, .dead, .dead, .dead, .dead, .dead, .dead, .dead, .dead, .dead, .dead, .dead, .dead, .dead, .dead, .dead, .dead, .dead, .dead, .dead, .dead, .dead, .dead, .dead, .dead, .dead, .dead, .dead, .dead, .dead, .dead, .dead, .dead, .dead, .dead, .dead, .dead, .dead], [.box (.cons .bool (.cons (.arr 4 (.int .u64)) .nil)) (.pl (.cons .bool (.cons (.arr 4 (.int .u64)) .nil))), .box (.cons .bool (.cons (.arr 4 (.int .u64)) .nil)) (.pl (.cons .bool (.cons (.arr 4 (.int .u64)) .nil)))]⟩) | [1000000, 9], 4 => some (.join ⟨[.dead, .dead, .pl (.int .u64), .ptr 0 [], .ptr 1 [], .dead, .dead, .dead, .dead, .dead, .dead, .dead, .dead, .dead, .dead, .dead, .dead, .dead, .dead, .dead, .dead, .dead, .dead, .dead, .dead, .dead, .dead, .dead, .dead, .dead, .dead, .dead, .dead, .dead, .dead, .dead, .dead, .dead, .dead, .dead, .dead, .dead, .dead, .dead, .dead, .dead, .dead, .dead, .dead, .dead, .dead, .dead, .dead, .dead, .dead, .dead, .dead, .dead, .dead, .dead, .dead, .dead, .dead, .dead, .dead, .dead, .dead, .dead, .dead, .dead, .dead, .dead, .dead, .dead, .dead, .dead, .dead, .dead, .dead, .dead, .dead, .dead, .dead, .dead, .dead, .dead, .dead, .dead, .dead, .dead, .dead, .dead, .dead, .dead, .dead, .dead, .dead, .dead, .dead, .dead, .dead, .dead, .dead, .dead, .dead, .dead, .dead], [.box (.cons .bool (.cons (.arr 4 (.int .u64)) .nil)) (.pl (.cons .bool (.cons (.arr 4 (.int .u64)) .nil))), .box (.cons .bool (.cons (.arr 4 (.int .u64)) .nil)) (.pl (.cons .bool (.cons (.arr 4 (.int .u64)) .nil)))]⟩) | [1000000, 9], 9 => some (.join ⟨[.dead, .dead, .pl (.int .u64), .ptr 0 [], .dead, .dead, .dead, .dead, .dead, .dead, .dead, .dead, .dead, .dead, .dead, .dead, .dead, .dead, .dead, .dead, .dead, .dead, .dead, .dead, .dead, .dead, .dead, .dead, .dead, .dead, .dead, .dead, .dead, .dead, .dead, .dead, .dead, .dead, .dead, .dead, .dead, .dead, .dead, .dead, .dead, .dead, .dead, .dead, .dead, .dead, .dead, .dead, .dead, .dead, .dead, .dead, .dead, .dead, .dead, .dead, .dead, .dead, .dead, .dead, .dead, .dead, .dead, .dead, .dead, .dead, .dead, .dead, .dead, .dead, .dead, .dead, .dead, .dead, .dead, .dead, .dead, .dead, .dead, .dead, .dead, .dead, .dead, .dead, .dead, .dead, .dead, .dead, .dead, .dead, .dead, .dead, .dead, .dead, .dead, .dead, .dead, .dead, .dead, .dead, .dead, .dead, .dead], [.box (.cons .bool (.cons (.arr 4 (.int .u64)) .nil)) (.pl (.cons .bool (.cons (.arr 4 (.int .u64)) .nil)))]⟩) | _, _ => none
theorem ev9 : ∀ x, evalFn env9 ann9 9 ⟨[.pl (.cons .bool (.cons (.arr 4 (.int .u64)) .nil)), .pl (.cons .bool (.cons (.arr 4 (.int .u64)) .nil)), .pl (.int .u64)], []⟩ ⟨[.pl .bool], []⟩ 60 K0 x = pontagelaw3_Int256Algebra x := by intro x; kernel_rfl
theorem ok9 : ConOk Try.prog 9 pontagelaw3_Int256AlgebraC := con_of_ev (E := env9) (envOk tysOk eqsOk (show HowsOk Try.prog [(10, .con int256_DivFloorC), (12, .con pontagelaw3_awakeC), (19, .con int256_NewC), (20, .con int256_ValidC), (21, .con int256_CmpC), (25, .con int256_AddC), (27, .con int256_SubC), (28, .con int256_MulC)] from (And.intro ok10 (And.intro ok12 (And.intro ok19 (And.intro ok20 (And.intro ok21 (And.intro ok25 (And.intro ok27 (And.intro ok28 trivial))))))))) follows) noOddP fun x y h => ⟨ann9, 60, K0, (ev9 x).trans h⟩
end Sym

/- Rules for what a printed function computes. -/
namespace Sym
open Go

/-- The result r has the property T. -/
def Wp {R : Type} (T : R → Prop) (r : R) : Prop := T r

theorem Wp.brn {R : Type} {T : R → Prop} {c : Bool} {t f : R} (h1 : c = true → Wp T t) (h2 : c = false → Wp T f) : Wp T (brn c t f) := by
  cases c
  · exact h2 rfl
  · exact h1 rfl

theorem Wp.brnT {R : Type} {T : R → Prop} {c : Bool} {t f : R} (hc : c = true) (h : Wp T t) : Wp T (Sym.brn c t f) := by subst hc; exact h
theorem Wp.brnF {R : Type} {T : R → Prop} {c : Bool} {t f : R} (hc : c = false) (h : Wp T f) : Wp T (Sym.brn c t f) := by subst hc; exact h

theorem Wp.optF {R Y : Type} {T : R → Prop} {fail : R} {o : Option Y} {k : Y → R} {y : Y} (ho : o = some y) (h : Wp T (k y)) : Wp T (optF fail o k) := by subst ho; exact h

theorem Wp.call {R Y : Type} {T : R → Prop} {fail : R} {o : Option Y} {k : Y → R} {P : Y → Prop} (ho : ∃ y, o = some y ∧ P y) (h : ∀ y, P y → Wp T (k y)) : Wp T (Sym.optF fail o k) := by
  obtain ⟨y, rfl, hp⟩ := ho
  exact h y hp

theorem Wp.jn {X R : Type} {T : R → Prop} {J : X → R} {f : (X → R) → R} (P : X → Prop) (h1 : ∀ x, P x → Wp T (J x)) (h2 : ∀ j : X → R, (∀ x, P x → Wp T (j x)) → Wp T (f j)) : Wp T (jn J f) := h2 J h1

/-- One round. -/
def Rnd {X R : Type} (T : R → Prop) (Inv : X → Prop) (μ : X → Nat) (m : Nat) (s : Stp X R) : Prop :=
  match s with
  | .again y => Inv y ∧ μ y < m
  | .done r => Wp T r

theorem Wp.again {X R : Type} {T : R → Prop} {Inv : X → Prop} {μ : X → Nat} {m : Nat} {y : X} (h1 : Inv y) (h2 : μ y < m) : Wp (Rnd T Inv μ m) (.again y : Stp X R) := ⟨h1, h2⟩
theorem Wp.done {X R : Type} {T : R → Prop} {Inv : X → Prop} {μ : X → Nat} {m : Nat} {r : R} (h : Wp T r) : Wp (Rnd T Inv μ m) (.done r : Stp X R) := h

theorem Wp.iter {X R : Type} {T : R → Prop} {fail : R} {f : X → Stp X R} {x : X} (Inv : X → Prop) (μ : X → Nat) {k : Nat} (h : ∀ x, Inv x → Wp (Rnd T Inv μ (μ x)) (f x)) (hi : Inv x) (hm : μ x < k) : Wp T (iter fail f k x) := by
  induction k generalizing x with
  | zero => omega
  | succ k ih =>
    have h1 := h x hi
    unfold Sym.iter
    cases hf : f x with
    | again y =>
      rw [hf] at h1
      exact ih h1.1 (Nat.lt_of_lt_of_le h1.2 (by omega))
    | done r =>
      rw [hf] at h1
      exact h1

/-- Behind one round. -/
def Nxt {X R : Type} (T : R → Prop) (fail : R) (f : X → Stp X R) (k : Nat) (s : Stp X R) : Prop :=
  match s with
  | .again y => Wp T (Sym.iter fail f k y)
  | .done r => Wp T r

theorem Wp.unroll {X R : Type} {T : R → Prop} {fail : R} {f : X → Stp X R} {x : X} {k : Nat} (h : Wp (Nxt T fail f k) (f x)) : Wp T (Sym.iter fail f (k + 1) x) := by
  unfold Sym.iter
  cases hf : f x with
  | again y => rw [hf] at h; exact h
  | done r => rw [hf] at h; exact h
theorem Wp.next {X R : Type} {T : R → Prop} {fail : R} {f : X → Stp X R} {y : X} {k : Nat} (h : Wp T (Sym.iter fail f k y)) : Wp (Nxt T fail f k) (.again y) := h
theorem Wp.stop {X R : Type} {T : R → Prop} {fail : R} {f : X → Stp X R} {r : R} {k : Nat} (h : Wp T r) : Wp (Nxt T fail f k) (.done r) := h

theorem Wp.some {Y : Type} {T : Y → Prop} {y : Y} (h : T y) : Wp (fun o : Option Y => ∃ y, o = some y ∧ T y) (some y) := ⟨y, rfl, h⟩
theorem Wp.out {R : Type} {T : R → Prop} {r : R} (h : Wp T r) : T r := h

/-! Whole numbers of a kind. -/
theorem I.of_val {k : IntKind} {n : Int} (h : k.min ≤ n ∧ n ≤ k.max) : (I.of k n).val = n := wrap_eq_of_range h

theorem of_u64 {n : Int} (h : 0 ≤ n ∧ n < 18446744073709551616) : (I.of .u64 n).val = n := I.of_val ⟨by simp [IntKind.min, IntKind.signed]; omega, by simp [IntKind.max, IntKind.bits, IntKind.signed]; omega⟩
theorem of_i64 {n : Int} (h : -9223372036854775808 ≤ n ∧ n < 9223372036854775808) : (I.of .i64 n).val = n := I.of_val ⟨by simp [IntKind.min, IntKind.bits, IntKind.signed]; omega, by simp [IntKind.max, IntKind.bits, IntKind.signed]; omega⟩
theorem of_u8 {n : Int} (h : 0 ≤ n ∧ n < 256) : (I.of .u8 n).val = n := I.of_val ⟨by simp [IntKind.min, IntKind.signed]; omega, by simp [IntKind.max, IntKind.bits, IntKind.signed]; omega⟩

theorem u64_range (x : I .u64) : 0 ≤ x.val ∧ x.val < 18446744073709551616 := I_range x
theorem i64_range (x : I .i64) : -9223372036854775808 ≤ x.val ∧ x.val < 9223372036854775808 := by
  have h := x.ok
  have h1 : (2 ^ IntKind.i64.bits : Int) = 18446744073709551616 := by decide
  have h2 : (2 ^ (IntKind.i64.bits - 1) : Int) = 9223372036854775808 := by decide
  have h3 : IntKind.i64.signed = true := rfl
  simp only [IntKind.wrap, h1, h2, h3, Bool.true_and, decide_eq_true_eq] at h
  split at h <;> omega
theorem u8_range (x : I .u8) : 0 ≤ x.val ∧ x.val < 256 := by
  have h := x.ok
  simp only [IntKind.wrap, IntKind.bits, IntKind.signed, Bool.false_and, Bool.false_eq_true, if_false] at h
  omega

theorem iff_ltb {k : IntKind} {a b : I k} : I.ltb a b = true ↔ a.val < b.val := by simp [I.ltb]
theorem iff_leb {k : IntKind} {a b : I k} : I.leb a b = true ↔ a.val ≤ b.val := by simp [I.leb]
theorem iff_eqb {k : IntKind} {a b : I k} : I.eqb a b = true ↔ a.val = b.val := by simp [I.eqb]
theorem iff_neb {k : IntKind} {a b : I k} : I.neb a b = true ↔ a.val ≠ b.val := by simp [I.neb]
theorem niff_ltb {k : IntKind} {a b : I k} : I.ltb a b = false ↔ b.val ≤ a.val := by simp [I.ltb]
theorem niff_leb {k : IntKind} {a b : I k} : I.leb a b = false ↔ b.val < a.val := by simp [I.leb]
theorem niff_eqb {k : IntKind} {a b : I k} : I.eqb a b = false ↔ a.val ≠ b.val := by simp [I.eqb]
theorem niff_neb {k : IntKind} {a b : I k} : I.neb a b = false ↔ a.val = b.val := by simp [I.neb]
theorem iff_nz {k : IntKind} {a : I k} : I.nz a = true ↔ a.val ≠ 0 := by simp [I.nz]
theorem iff_nn {k : IntKind} {a : I k} : I.nn a = true ↔ 0 ≤ a.val := by simp [I.nn]
theorem iff_inB {k : IntKind} {a : I k} {n : Nat} : inB a n = true ↔ 0 ≤ a.val ∧ a.val < n := by simp [inB]
theorem iff_fits {n : Nat} : fitsLen n = true ↔ n ≤ 1073741824 := by simp [fitsLen]

theorem I.eq_of {k : IntKind} {a b : I k} (h : I.eqb a b = true) : a = b := I.ext' (iff_eqb.1 h)
theorem ofNat_i64 {n : Nat} (h : n < 9223372036854775808) : (I.ofNat .i64 n).val = n := of_i64 ⟨by omega, by omega⟩
theorem add_i64 {a b : I .i64} (h : -9223372036854775808 ≤ a.val + b.val ∧ a.val + b.val < 9223372036854775808) : (I.add a b).val = a.val + b.val := of_i64 h
theorem sub_i64 {a b : I .i64} (h : -9223372036854775808 ≤ a.val - b.val ∧ a.val - b.val < 9223372036854775808) : (I.sub a b).val = a.val - b.val := of_i64 h
theorem mul_i64 {a b : I .i64} (h : -9223372036854775808 ≤ a.val * b.val ∧ a.val * b.val < 9223372036854775808) : (I.mul a b).val = a.val * b.val := of_i64 h
theorem rem_i64 {a b : I .i64} (h : 0 ≤ a.val) (h2 : 0 < b.val) : (I.rem a b).val = a.val % b.val := by
  have ha := i64_range a
  have hb := i64_range b
  have e : a.val.tmod b.val = a.val % b.val := Int.tmod_eq_emod_of_nonneg h
  have h3 := Int.emod_nonneg a.val (b := b.val) (by omega)
  have h4 := Int.emod_lt_of_pos a.val h2
  unfold I.rem
  rw [e]
  exact of_i64 ⟨by omega, by omega⟩
theorem quo_i64 {a b : I .i64} (h : 0 ≤ a.val) (h2 : 0 < b.val) : (I.quo a b).val = a.val / b.val := by
  have ha := i64_range a
  have e : a.val.tdiv b.val = a.val / b.val := Int.tdiv_eq_ediv_of_nonneg h
  have h3 : 0 ≤ a.val / b.val := Int.ediv_nonneg h (by omega)
  have h4 : a.val / b.val ≤ a.val := Int.ediv_le_self _ h
  unfold I.quo
  rw [e]
  exact of_i64 ⟨by omega, by omega⟩
theorem add_u64 {a b : I .u64} (h : a.val + b.val < 18446744073709551616) : (I.add a b).val = a.val + b.val := of_u64 ⟨by have := u64_range a; have := u64_range b; omega, h⟩
theorem sub_u64 {a b : I .u64} (h : b.val ≤ a.val) : (I.sub a b).val = a.val - b.val := of_u64 ⟨by omega, by have := u64_range a; have := u64_range b; omega⟩
theorem rem_u64 {a b : I .u64} (h2 : b.val ≠ 0) : (I.rem a b).val = a.val % b.val := by
  have ha := u64_range a
  have hb := u64_range b
  have e : a.val.tmod b.val = a.val % b.val := Int.tmod_eq_emod_of_nonneg ha.1
  have h3 := Int.emod_nonneg a.val (b := b.val) (by omega)
  have h4 := Int.emod_lt_of_pos a.val (b := b.val) (by omega)
  unfold I.rem
  rw [e]
  exact of_u64 ⟨by omega, by omega⟩
theorem quo_u64 {a b : I .u64} : (I.quo a b).val = a.val / b.val := by
  have ha := u64_range a
  have hb := u64_range b
  have e : a.val.tdiv b.val = a.val / b.val := Int.tdiv_eq_ediv_of_nonneg ha.1
  have h3 : 0 ≤ a.val / b.val := Int.ediv_nonneg ha.1 hb.1
  have h4 : a.val / b.val ≤ a.val := Int.ediv_le_self _ ha.1
  unfold I.quo
  rw [e]
  exact of_u64 ⟨by omega, by omega⟩
theorem nn_u64 (a : I .u64) : I.nn a = true := iff_nn.2 (u64_range a).1
/-- A power of two by a shift of one. -/
theorem shl_one {a : I .u64} (h : a.val < 64) : (I.shl (I.of .u64 1) a).val = 2 ^ a.val.toNat := by
  have ha := u64_range a
  have hm : min a.val.toNat IntKind.u64.bits = a.val.toNat := by
    have : IntKind.u64.bits = 64 := rfl
    omega
  have h1 : (I.of .u64 1).val = 1 := rfl
  unfold I.shl
  rw [hm, h1, Int.one_mul]
  refine of_u64 ⟨Int.le_of_lt (Int.pow_pos (by decide)), ?_⟩
  have h3 : 2 ^ a.val.toNat ≤ 2 ^ 63 := Nat.pow_le_pow_right (by decide) (by omega)
  have h4 : ((2 ^ a.val.toNat : Nat) : Int) = 2 ^ a.val.toNat := by simp
  rw [← h4]
  omega
end Sym

/- Natural numbers by digits of 65536: what the reference's first functions compute. -/
namespace Sym
open Go

abbrev Dg : Type := I .i64

/-- The digits' value. -/
def bv : List Dg → Nat
  | [] => 0
  | d :: l => d.nat + 65536 * bv l

def DigOk (d : Dg) : Prop := 0 ≤ d.val ∧ d.val < 65536
def Digs (l : List Dg) : Prop := ∀ d ∈ l, DigOk d

/-- No zero stands in front. -/
def Lead : List Dg → Prop
  | [] => True
  | [d] => d.val ≠ 0
  | _ :: e :: l => Lead (e :: l)

/-- l is the number n. -/
structure IsB (l : List Dg) (n : Nat) : Prop where
  dig : Digs l
  lead : Lead l
  val : bv l = n

theorem DigOk.nat {d : Dg} (h : DigOk d) : (d.nat : Int) = d.val ∧ d.nat < 65536 := by
  unfold DigOk at h
  unfold I.nat
  omega

theorem digs_cons {d : Dg} {l : List Dg} : Digs (d :: l) ↔ DigOk d ∧ Digs l := by
  unfold Digs
  simp
theorem digs_app {l r : List Dg} : Digs (l ++ r) ↔ Digs l ∧ Digs r := by
  unfold Digs
  simp only [List.mem_append]
  exact ⟨fun h => ⟨fun d hd => h d (.inl hd), fun d hd => h d (.inr hd)⟩, fun h d hd => hd.elim (h.1 d) (h.2 d)⟩
theorem digs_take {l : List Dg} (h : Digs l) (n : Nat) : Digs (l.take n) := fun d hd => h d (List.mem_of_mem_take hd)
theorem digs_drop {l : List Dg} (h : Digs l) (n : Nat) : Digs (l.drop n) := fun d hd => h d (List.mem_of_mem_drop hd)

theorem bv_lt : ∀ {l : List Dg}, Digs l → bv l < 65536 ^ l.length
  | [], _ => by simp [bv]
  | d :: l, h => by
    have h := digs_cons.1 h
    have h1 := h.1.nat.2
    have h2 := bv_lt h.2
    simp only [bv, List.length_cons, Nat.pow_succ]
    omega

theorem lead_cons {d : Dg} {l : List Dg} (h : Lead (d :: l)) : Lead l := by
  cases l with
  | nil => trivial
  | cons e l => exact h

theorem bv_pos : ∀ {l : List Dg}, Digs l → Lead l → l ≠ [] → 0 < bv l
  | [], _, _, h => absurd rfl h
  | [d], hd, hl, _ => by
    have h := (digs_cons.1 hd).1.nat.1
    have : d.val ≠ 0 := hl
    simp only [bv]
    omega
  | d :: e :: l, hd, hl, _ => by
    have := bv_pos (l := e :: l) (digs_cons.1 hd).2 hl (by simp)
    simp only [bv] at *
    omega

theorem isB_nil : IsB [] 0 := ⟨fun _ h => by simp at h, trivial, rfl⟩

theorem dig_ext {d e : Dg} (hd : DigOk d) (he : DigOk e) (h : d.nat = e.nat) : d = e := by
  apply I.ext'
  have := hd.nat.1
  have := he.nat.1
  omega

/-- A number has one list. -/
theorem IsB.unique : ∀ {l r : List Dg} {n : Nat}, IsB l n → IsB r n → l = r
  | [], [], _, _, _ => rfl
  | [], e :: r, n, h1, h2 => by
    have := bv_pos h2.dig h2.lead (by simp)
    have h3 := h1.val
    have h4 := h2.val
    simp only [bv] at h3 h4 this
    omega
  | d :: l, [], n, h1, h2 => by
    have := bv_pos h1.dig h1.lead (by simp)
    have h3 := h1.val
    have h4 := h2.val
    simp only [bv] at h3 h4 this
    omega
  | d :: l, e :: r, n, h1, h2 => by
    have d1 := digs_cons.1 h1.dig
    have d2 := digs_cons.1 h2.dig
    have h3 := h1.val
    have h4 := h2.val
    simp only [bv] at h3 h4
    have := d1.1.nat.2
    have := d2.1.nat.2
    rw [dig_ext d1.1 d2.1 (by omega), IsB.unique (n := bv l) ⟨d1.2, lead_cons h1.lead, rfl⟩ ⟨d2.2, lead_cons h2.lead, by omega⟩]

theorem bv_app : ∀ (l r : List Dg), bv (l ++ r) = bv l + 65536 ^ l.length * bv r
  | [], r => by simp [bv]
  | d :: l, r => by
    simp only [List.cons_append, bv, List.length_cons, bv_app l r, Nat.pow_succ, Nat.mul_add]
    rw [Nat.mul_comm (65536 ^ l.length) 65536, Nat.mul_assoc]
    omega

theorem lead_snoc : ∀ (l : List Dg) (d : Dg), d.val ≠ 0 → Lead (l ++ [d])
  | [], d, h => h
  | [e], d, h => h
  | e :: f :: l, d, h => lead_snoc (f :: l) d h

theorem bv_ge : ∀ {l : List Dg}, Digs l → Lead l → l ≠ [] → 65536 ^ (l.length - 1) ≤ bv l
  | [], _, _, h => absurd rfl h
  | [d], hd, hl, _ => by
    have h := (digs_cons.1 hd).1.nat.1
    have : d.val ≠ 0 := hl
    simp only [bv, List.length_singleton, Nat.sub_self, Nat.pow_zero]
    omega
  | d :: e :: l, hd, hl, _ => by
    have := bv_ge (l := e :: l) (digs_cons.1 hd).2 hl (by simp)
    simp only [List.length_cons, Nat.add_sub_cancel] at this ⊢
    simp only [bv, Nat.pow_succ] at *
    omega

theorem IsB.len {l : List Dg} {n k : Nat} (h : IsB l n) : l.length ≤ k ↔ n < 65536 ^ k := by
  have h1 := bv_lt h.dig
  rw [h.val] at h1
  constructor
  · intro hk
    exact Nat.lt_of_lt_of_le h1 (Nat.pow_le_pow_right (by decide) hk)
  · intro hn
    rcases Nat.lt_or_ge k l.length with hk | hk
    · have h2 := bv_ge h.dig h.lead (by intro e; subst e; simp at hk)
      rw [h.val] at h2
      have h3 : 65536 ^ k ≤ 65536 ^ (l.length - 1) := Nat.pow_le_pow_right (by decide) (by omega)
      omega
    · exact hk

theorem rdL_eq {X : Type} (d : X) : ∀ (l : List X) (i : Nat) (h : i < l.length), rdL d l i = l[i]
  | x :: l, 0, _ => rfl
  | x :: l, i + 1, h => rdL_eq d l i (by simpa using h)

theorem K0_ge (n : Nat) (h : n < 2 ^ 64) : n < K0 := by rw [K0_eq]; exact h

/-- A list of digits without the zeros in front. -/
theorem norm_ok (l : List Dg) (hd : Digs l) (hl : l.length ≤ 1073741824) : ∃ r, pontageref1_norm ((l, ()), ()) = some ((r, ()), ()) ∧ IsB r (bv l) := by
  have key : Wp (fun o => ∃ r, o = some ((r, ()), ()) ∧ IsB r (bv l)) (pontageref1_norm ((l, ()), ())) := by
    have hlen : (I.ofNat .i64 (lenL l)).val = l.length := ofNat_i64 (by show l.length < _; omega)
    have c1 : (I.of .i64 1).val = 1 := rfl
    have c0 : (I.of .i64 0).val = 0 := rfl
    unfold pontageref1_norm
    refine Wp.iter (fun x => x.1.1 = l ∧ 0 ≤ x.1.2.1.val ∧ x.1.2.1.val ≤ (l.length : Int) ∧ bv (l.take x.1.2.1.val.toNat) = bv l) (fun x => x.1.2.1.val.toNat) ?_ ?_ ?_
    · rintro ⟨⟨l', i, ⟨⟩⟩, ⟨⟩⟩ ⟨e1, hi0, hi1, hb⟩
      simp only at e1 hi0 hi1 hb
      subst e1
      have cut : inB' i (lenL l') = true := by
        show (decide (0 ≤ i.val) && decide (i.val ≤ ((l'.length : Nat) : Int))) = true
        simp [hi0, hi1]
      have sub : subL l' 0 (I.nat i) = l'.take i.val.toNat := by simp [subL, I.nat]
      refine Wp.brn (fun h => ?_) (fun h => ?_)
      · have h := iff_ltb.1 h
        simp only [c0] at h
        have hs : (I.sub i (I.of .i64 1)).val = i.val - 1 := by rw [sub_i64 (by omega)]; omega
        have hidx : (I.nat (I.sub i (I.of .i64 1))) = i.val.toNat - 1 := by unfold I.nat; omega
        have hlt : i.val.toNat - 1 < l'.length := by omega
        have hrd : rdL (I.of .i64 0) l' (I.nat (I.sub i (I.of .i64 1))) = l'[i.val.toNat - 1] := by rw [hidx]; exact rdL_eq _ _ _ hlt
        have htk : l'.take i.val.toNat = l'.take (i.val.toNat - 1) ++ [l'[i.val.toNat - 1]] := by
          rw [List.take_append_getElem hlt]
          congr 1
          omega
        refine Wp.brnT (iff_inB.2 ⟨by show 0 ≤ (I.sub i (I.of .i64 1)).val; omega, by show (I.sub i (I.of .i64 1)).val < (l'.length : Int); omega⟩) ?_
        refine Wp.brn (fun h2 => ?_) (fun h2 => ?_)
        · have h2 := iff_eqb.1 h2
          simp only [hrd] at h2
          refine Wp.again ⟨rfl, ?_, ?_, ?_⟩ ?_
          · show 0 ≤ (I.sub i (I.of .i64 1)).val; omega
          · show (I.sub i (I.of .i64 1)).val ≤ _; omega
          · show bv (l'.take (I.sub i (I.of .i64 1)).val.toNat) = _
            have e : (I.sub i (I.of .i64 1)).val.toNat = i.val.toNat - 1 := by omega
            rw [e, ← hb, htk, bv_app]
            have hz : (l'[i.val.toNat - 1]).nat = 0 := by unfold I.nat; rw [h2]; rfl
            simp [bv, hz]
          · show (I.sub i (I.of .i64 1)).val.toNat < _
            simp only; omega
        · have h2 := niff_eqb.1 h2
          simp only [hrd] at h2
          refine Wp.done (Wp.brnT cut ⟨_, rfl, ?_⟩)
          show IsB (subL l' 0 (I.nat i)) _
          rw [sub]
          refine ⟨digs_take hd _, ?_, hb⟩
          rw [htk]
          exact lead_snoc _ _ h2
      · have h := niff_ltb.1 h
        simp only [c0] at h
        refine Wp.done (Wp.brnT cut ⟨_, rfl, ?_⟩)
        show IsB (subL l' 0 (I.nat i)) _
        rw [sub]
        have e : i.val.toNat = 0 := by omega
        rw [e] at hb ⊢
        simp only [List.take_zero] at hb ⊢
        rw [← hb]
        exact isB_nil
    · refine ⟨rfl, ?_, ?_, ?_⟩
      · show 0 ≤ (I.ofNat .i64 (lenL l)).val; omega
      · show (I.ofNat .i64 (lenL l)).val ≤ _; omega
      · show bv (l.take (I.ofNat .i64 (lenL l)).val.toNat) = _
        rw [hlen, Int.toNat_natCast, List.take_length]
    · refine K0_ge _ ?_
      show (I.ofNat .i64 (lenL l)).val.toNat < _
      omega
  exact key.out
end Sym

/- Natural numbers by digits of 65536: from and to 256 bits, comparison. -/
namespace Sym
open Go

theorem setAt_eq {X : Type} : ∀ (l : List X) (i : Nat) (v : X), setAt l i v = l.set i v
  | [], _, _ => rfl
  | _ :: _, 0, _ => rfl
  | x :: l, i + 1, v => by simp [setAt, setAt_eq l i v]

theorem and_mask (k : IntKind) (hk : k.bits = 64) (x : I k) (h : 0 ≤ x.val) (hx : x.val < 18446744073709551616) : ((BitVec.ofInt k.bits x.val &&& BitVec.ofInt k.bits 65535).toNat : Int) = x.val % 65536 := by
  rw [hk, BitVec.toNat_and]
  have h1 : (BitVec.ofInt 64 65535).toNat = 2 ^ 16 - 1 := rfl
  rw [h1, Nat.and_two_pow_sub_one_eq_mod, BitVec.toNat_ofInt]
  omega

theorem and_u64 (x : I .u64) : (I.and x (I.of .u64 65535)).val = x.val % 65536 := by
  have h := u64_range x
  have := and_mask .u64 rfl x h.1 h.2
  have e : (I.of .u64 65535).val = 65535 := rfl
  show (I.of .u64 _).val = _
  rw [e, this]
  exact of_u64 ⟨by omega, by omega⟩

theorem and_i64 (x : I .i64) (h : 0 ≤ x.val) : (I.and x (I.of .i64 65535)).val = x.val % 65536 := by
  have h2 := i64_range x
  have := and_mask .i64 rfl x h (by omega)
  have e : (I.of .i64 65535).val = 65535 := rfl
  show (I.of .i64 _).val = _
  rw [e, this]
  exact of_i64 ⟨by omega, by omega⟩

theorem fdiv_pos (a : Int) (n : Nat) (h : 0 ≤ a) : a.fdiv ((2 : Int) ^ n) = a / (2 : Int) ^ n := by
  have h2 : (0 : Int) ≤ (2 : Int) ^ n := Int.le_of_lt (Int.pow_pos (by decide))
  rw [Int.fdiv_eq_ediv_of_nonneg _ h2]

theorem shr_u64 (x s : I .u64) (hs : s.val < 64) : (I.shr x s).val = x.val / (2 : Int) ^ s.val.toNat := by
  have hx := u64_range x
  have h0 := u64_range s
  have hm : min s.val.toNat IntKind.u64.bits = s.val.toNat := by
    have : IntKind.u64.bits = 64 := rfl
    omega
  unfold I.shr
  rw [hm, fdiv_pos _ _ hx.1]
  have h2 : (0 : Int) < (2 : Int) ^ s.val.toNat := Int.pow_pos (by decide)
  have h3 : 0 ≤ x.val / (2 : Int) ^ s.val.toNat := Int.ediv_nonneg hx.1 (by omega)
  have h4 : x.val / (2 : Int) ^ s.val.toNat ≤ x.val := Int.ediv_le_self _ hx.1
  exact of_u64 ⟨by omega, by omega⟩

theorem shr_i64_16 (x : I .i64) (h : 0 ≤ x.val) : (I.shr x (I.of .u64 16)).val = x.val / 65536 := by
  have hx := i64_range x
  have hm : min (I.of .u64 16).val.toNat IntKind.i64.bits = 16 := rfl
  unfold I.shr
  rw [hm, fdiv_pos _ _ h]
  have e : (2 : Int) ^ 16 = 65536 := by decide
  rw [e]
  exact of_i64 ⟨by omega, by omega⟩

/-- The j-th digit of 256 bits. -/
def digF (a : U) (j : Nat) : Dg := I.conv .i64 (I.and (I.shr (Arr.sel (I.of .u64 0) 4 a (j / 4)) (I.of .u64 (16 * (j % 4) : Nat))) (I.of .u64 65535))

theorem digF_nat (a : U) (j : Nat) : (digF a j).val = (Arr.sel (I.of .u64 0) 4 a (j / 4)).val / (2 : Int) ^ (16 * (j % 4)) % 65536 := by
  have h1 : (I.of .u64 (16 * (j % 4) : Nat)).val = (16 * (j % 4) : Nat) := of_u64 ⟨by omega, by omega⟩
  have h2 := shr_u64 (Arr.sel (I.of .u64 0) 4 a (j / 4)) (I.of .u64 (16 * (j % 4) : Nat)) (by omega)
  rw [h1, Int.toNat_natCast] at h2
  unfold digF
  show (I.of .i64 _).val = _
  rw [and_u64, h2]
  exact of_i64 ⟨by omega, by omega⟩

theorem digF_ok (a : U) (j : Nat) : DigOk (digF a j) := by
  unfold DigOk
  rw [digF_nat]
  omega

theorem limb (x : I .u64) (d0 d1 d2 d3 : Nat) (h0 : (d0 : Int) = x.val / (2 : Int) ^ 0 % 65536) (h1 : (d1 : Int) = x.val / (2 : Int) ^ 16 % 65536) (h2 : (d2 : Int) = x.val / (2 : Int) ^ 32 % 65536) (h3 : (d3 : Int) = x.val / (2 : Int) ^ 48 % 65536) :
    x.nat = d0 + 65536 * d1 + 4294967296 * d2 + 281474976710656 * d3 := by
  have p0 : (2 : Int) ^ 0 = 1 := by decide
  have p1 : (2 : Int) ^ 16 = 65536 := by decide
  have p2 : (2 : Int) ^ 32 = 4294967296 := by decide
  have p3 : (2 : Int) ^ 48 = 281474976710656 := by decide
  rw [p0] at h0
  rw [p1] at h1
  rw [p2] at h2
  rw [p3] at h3
  have hx := u64_range x
  have hn := nat_val x
  omega

theorem comb (a0 a1 a2 a3 d0 d1 d2 d3 d4 d5 d6 d7 d8 d9 d10 d11 d12 d13 d14 d15 : Nat) (v0 : a0 = d0 + 65536 * d1 + 4294967296 * d2 + 281474976710656 * d3) (v1 : a1 = d4 + 65536 * d5 + 4294967296 * d6 + 281474976710656 * d7)
    (v2 : a2 = d8 + 65536 * d9 + 4294967296 * d10 + 281474976710656 * d11) (v3 : a3 = d12 + 65536 * d13 + 4294967296 * d14 + 281474976710656 * d15) :
    d0 + 65536 * (d1 + 65536 * (d2 + 65536 * (d3 + 65536 * (d4 + 65536 * (d5 + 65536 * (d6 + 65536 * (d7 + 65536 * (d8 + 65536 * (d9 + 65536 * (d10 + 65536 * (d11 + 65536 * (d12 + 65536 * (d13 + 65536 * (d14 + 65536 * (d15 + 65536 * 0))))))))))))))) =
      a0 + 18446744073709551616 * (a1 + 18446744073709551616 * (a2 + 18446744073709551616 * a3)) := by
  subst v0 v1 v2 v3
  omega

theorem digs_of_U (a : U) : bv ((List.range 16).map (digF a)) = a.val := by
  obtain ⟨a0, a1, a2, a3, ⟨⟩⟩ := a
  have n : ∀ j, ((digF (a0, a1, a2, a3, ()) j).nat : Int) = (Arr.sel (I.of .u64 0) 4 (a0, a1, a2, a3, ()) (j / 4)).val / (2 : Int) ^ (16 * (j % 4)) % 65536 := fun j => (digF_ok _ j).nat.1.trans (digF_nat _ j)
  exact comb _ _ _ _ _ _ _ _ _ _ _ _ _ _ _ _ _ _ _ _ (limb a0 _ _ _ _ (n 0) (n 1) (n 2) (n 3)) (limb a1 _ _ _ _ (n 4) (n 5) (n 6) (n 7)) (limb a2 _ _ _ _ (n 8) (n 9) (n 10) (n 11)) (limb a3 _ _ _ _ (n 12) (n 13) (n 14) (n 15))

theorem FromUint256_ok (a : U) : ∃ r, pontageref1_FromUint256 ((a, ()), ()) = some ((r, ()), ()) ∧ IsB r a.val := by
  have key : Wp (fun o => ∃ r, o = some ((r, ()), ()) ∧ IsB r a.val) (pontageref1_FromUint256 ((a, ()), ())) := by
    have c16 : (I.of .i64 16).val = 16 := rfl
    have c4 : (I.of .i64 4).val = 4 := rfl
    have c1 : (I.of .i64 1).val = 1 := rfl
    unfold pontageref1_FromUint256
    refine Wp.iter (fun x => 0 ≤ x.1.1.val ∧ x.1.1.val ≤ 16 ∧ x.2.1 = a ∧ x.2.2.1 = (List.range x.1.1.val.toNat).map (digF a) ++ List.replicate (16 - x.1.1.val.toNat) (I.of .i64 0)) (fun x => (16 - x.1.1.val).toNat) ?_ ?_ ?_
    · rintro ⟨⟨i, ⟨⟩⟩, a', out, ⟨⟩⟩ ⟨hi0, hi1, e1, e2⟩
      simp only at hi0 hi1 e1 e2
      subst e1
      refine Wp.brn (fun h => ?_) (fun h => ?_)
      · have h := iff_ltb.1 h
        simp only [c16] at h
        have hq : (I.quo i (I.of .i64 4)).val = i.val / 4 := quo_i64 hi0 (by decide)
        have hr : (I.rem i (I.of .i64 4)).val = i.val % 4 := rem_i64 hi0 (by decide)
        have hlen : out.length = 16 := by rw [e2]; simp; omega
        have hs : (I.add i (I.of .i64 1)).val = i.val + 1 := by rw [add_i64 (by omega)]; omega
        have hm : (I.mul (I.of .i64 16) (I.rem i (I.of .i64 4))).val = 16 * (i.val % 4) := by rw [mul_i64 (by rw [c16, hr]; omega), hr, c16]
        refine Wp.brnT (iff_inB.2 ⟨by show 0 ≤ (I.quo i (I.of .i64 4)).val; omega, by show (I.quo i (I.of .i64 4)).val < ((4 : Nat) : Int); omega⟩) ?_
        refine Wp.brnT (nn_u64 _) ?_
        refine Wp.brnT (iff_inB.2 ⟨hi0, by show i.val < ((out.length : Nat) : Int); omega⟩) ?_
        refine Wp.again ⟨?_, ?_, rfl, ?_⟩ ?_
        · show 0 ≤ (I.add i (I.of .i64 1)).val; omega
        · show (I.add i (I.of .i64 1)).val ≤ 16; omega
        · have ed : I.conv .i64 (I.and (I.shr (Arr.sel (I.of .u64 0) 4 a' (I.nat (I.quo i (I.of .i64 4)))) (I.conv .u64 (I.mul (I.of .i64 16) (I.rem i (I.of .i64 4))))) (I.of .u64 65535)) = digF a' i.val.toNat := by
            unfold digF
            have e1 : I.nat (I.quo i (I.of .i64 4)) = i.val.toNat / 4 := by unfold I.nat; omega
            have e2 : I.conv .u64 (I.mul (I.of .i64 16) (I.rem i (I.of .i64 4))) = I.of .u64 (16 * (i.val.toNat % 4) : Nat) := by
              show I.of .u64 _ = _
              rw [hm]
              congr 1
              omega
            rw [e1, e2]
          show setAt out (I.nat i) _ = (List.range (I.add i (I.of .i64 1)).val.toNat).map (digF a') ++ List.replicate (16 - (I.add i (I.of .i64 1)).val.toNat) (I.of .i64 0)
          have e3 : (I.add i (I.of .i64 1)).val.toNat = i.val.toNat + 1 := by omega
          have e4 : I.nat i = ((List.range i.val.toNat).map (digF a')).length := by simp [I.nat]
          have e5 : 16 - i.val.toNat = (16 - (i.val.toNat + 1)) + 1 := by omega
          rw [setAt_eq, e2, e3, e4, List.set_append_right _ _ (Nat.le_refl _), Nat.sub_self, e5, List.replicate_succ, List.set_cons_zero, List.range_succ, List.map_append, List.map_cons, List.map_nil, List.append_assoc]
          show _ ++ _ = _ ++ ([_] ++ _)
          rw [← ed]
          rfl
        · show (16 - (I.add i (I.of .i64 1)).val).toNat < _
          simp only; omega
      · have h := niff_ltb.1 h
        simp only [c16] at h
        have hi : i.val.toNat = 16 := by omega
        rw [hi] at e2
        simp only [Nat.sub_self, List.replicate_zero, List.append_nil] at e2
        subst e2
        have hd : Digs ((List.range 16).map (digF a')) := by
          intro d hd
          rw [List.mem_map] at hd
          obtain ⟨j, _, rfl⟩ := hd
          exact digF_ok a' j
        obtain ⟨r, hr, hB⟩ := norm_ok _ hd (by simp)
        exact Wp.done (Wp.optF hr ⟨r, rfl, hB.dig, hB.lead, hB.val.trans (digs_of_U a')⟩)
    · exact ⟨by show 0 ≤ (I.of .i64 0).val; decide, by show (I.of .i64 0).val ≤ 16; decide, rfl, rfl⟩
    · exact K0_ge _ (by show (16 - (I.of .i64 0).val).toNat < _; decide)
  exact key.out
end Sym

/- Natural numbers by digits of 65536: to 256 bits, comparison. -/
namespace Sym
open Go

theorem shl_u64 (x s : I .u64) (hs : s.val < 64) (h : x.val * (2 : Int) ^ s.val.toNat < 18446744073709551616) : (I.shl x s).val = x.val * (2 : Int) ^ s.val.toNat := by
  have hx := u64_range x
  have h0 := u64_range s
  have hm : min s.val.toNat IntKind.u64.bits = s.val.toNat := by
    have : IntKind.u64.bits = 64 := rfl
    omega
  have h2 : (0 : Int) ≤ (2 : Int) ^ s.val.toNat := Int.le_of_lt (Int.pow_pos (by decide))
  unfold I.shl
  rw [hm]
  exact of_u64 ⟨Int.mul_nonneg hx.1 h2, h⟩

theorem add_shl (x : I .u64) (d r S : Nat) (hd : d < 65536) (hr : r < 4) (hS : (S : Int) = (2 : Int) ^ (16 * r)) (hx : x.nat < S) (hl : S ≤ 281474976710656) : (I.add x (I.shl (I.of .u64 d) (I.of .u64 (16 * r : Nat)))).nat = x.nat + S * d := by
  have h1 : (I.of .u64 (16 * r : Nat)).val = (16 * r : Nat) := of_u64 ⟨by omega, by omega⟩
  have h2 : (I.of .u64 (d : Int)).val = d := of_u64 ⟨by omega, by omega⟩
  have hv := nat_val x
  have hdS : (d : Int) * S = ((S * d : Nat) : Int) := by rw [Nat.mul_comm, Int.natCast_mul]
  have hle : S * d ≤ 281474976710656 * 65535 := Nat.mul_le_mul hl (by omega)
  have h3 : (I.shl (I.of .u64 d) (I.of .u64 (16 * r : Nat))).val = ((S * d : Nat) : Int) := by
    rw [shl_u64 _ _ (by omega) (by rw [h1, h2, Int.toNat_natCast, ← hS, hdS]; omega), h1, h2, Int.toNat_natCast, ← hS, hdS]
  have h4 := add_u64 (a := x) (b := I.shl (I.of .u64 d) (I.of .u64 (16 * r : Nat))) (by rw [h3]; omega)
  rw [h3] at h4
  have h5 := nat_val (I.add x (I.shl (I.of .u64 d) (I.of .u64 (16 * r : Nat))))
  omega

theorem toU_step (u : U) (d : Nat) (j : Nat) (hj : j < 16) (hu : u.val < 65536 ^ j) (hd : d < 65536) :
    U.val (Arr.upd 4 u (j / 4) (I.add (Arr.sel (I.of .u64 0) 4 u (j / 4)) (I.shl (I.of .u64 d) (I.of .u64 (16 * (j % 4) : Nat))))) = u.val + 65536 ^ j * d := by
  obtain ⟨u0, u1, u2, u3, ⟨⟩⟩ := u
  have n0 := nat_lt u0
  have n1 := nat_lt u1
  have n2 := nat_lt u2
  have n3 := nat_lt u3
  unfold U.val at hu
  simp only at hu
  have hc : j = 0 ∨ j = 1 ∨ j = 2 ∨ j = 3 ∨ j = 4 ∨ j = 5 ∨ j = 6 ∨ j = 7 ∨ j = 8 ∨ j = 9 ∨ j = 10 ∨ j = 11 ∨ j = 12 ∨ j = 13 ∨ j = 14 ∨ j = 15 := by omega
  rcases hc with rfl | rfl | rfl | rfl | rfl | rfl | rfl | rfl | rfl | rfl | rfl | rfl | rfl | rfl | rfl | rfl
  · have p : 65536 ^ 0 = 1 := by decide
    rw [p] at hu ⊢
    have k := add_shl u0 d 0 1 hd (by decide) (by decide) (by omega) (by decide)
    show U.val ((I.add u0 (I.shl (I.of .u64 d) (I.of .u64 (16 * 0 : Nat)))), u1, u2, u3, ()) = _
    unfold U.val
    simp only
    omega
  · have p : 65536 ^ 1 = 65536 := by decide
    rw [p] at hu ⊢
    have k := add_shl u0 d 1 65536 hd (by decide) (by decide) (by omega) (by decide)
    show U.val ((I.add u0 (I.shl (I.of .u64 d) (I.of .u64 (16 * 1 : Nat)))), u1, u2, u3, ()) = _
    unfold U.val
    simp only
    omega
  · have p : 65536 ^ 2 = 4294967296 := by decide
    rw [p] at hu ⊢
    have k := add_shl u0 d 2 4294967296 hd (by decide) (by decide) (by omega) (by decide)
    show U.val ((I.add u0 (I.shl (I.of .u64 d) (I.of .u64 (16 * 2 : Nat)))), u1, u2, u3, ()) = _
    unfold U.val
    simp only
    omega
  · have p : 65536 ^ 3 = 281474976710656 := by decide
    rw [p] at hu ⊢
    have k := add_shl u0 d 3 281474976710656 hd (by decide) (by decide) (by omega) (by decide)
    show U.val ((I.add u0 (I.shl (I.of .u64 d) (I.of .u64 (16 * 3 : Nat)))), u1, u2, u3, ()) = _
    unfold U.val
    simp only
    omega
  · have p : 65536 ^ 4 = 18446744073709551616 := by decide
    rw [p] at hu ⊢
    have k := add_shl u1 d 0 1 hd (by decide) (by decide) (by omega) (by decide)
    show U.val (u0, (I.add u1 (I.shl (I.of .u64 d) (I.of .u64 (16 * 0 : Nat)))), u2, u3, ()) = _
    unfold U.val
    simp only
    omega
  · have p : 65536 ^ 5 = 1208925819614629174706176 := by decide
    rw [p] at hu ⊢
    have k := add_shl u1 d 1 65536 hd (by decide) (by decide) (by omega) (by decide)
    show U.val (u0, (I.add u1 (I.shl (I.of .u64 d) (I.of .u64 (16 * 1 : Nat)))), u2, u3, ()) = _
    unfold U.val
    simp only
    omega
  · have p : 65536 ^ 6 = 79228162514264337593543950336 := by decide
    rw [p] at hu ⊢
    have k := add_shl u1 d 2 4294967296 hd (by decide) (by decide) (by omega) (by decide)
    show U.val (u0, (I.add u1 (I.shl (I.of .u64 d) (I.of .u64 (16 * 2 : Nat)))), u2, u3, ()) = _
    unfold U.val
    simp only
    omega
  · have p : 65536 ^ 7 = 5192296858534827628530496329220096 := by decide
    rw [p] at hu ⊢
    have k := add_shl u1 d 3 281474976710656 hd (by decide) (by decide) (by omega) (by decide)
    show U.val (u0, (I.add u1 (I.shl (I.of .u64 d) (I.of .u64 (16 * 3 : Nat)))), u2, u3, ()) = _
    unfold U.val
    simp only
    omega
  · have p : 65536 ^ 8 = 340282366920938463463374607431768211456 := by decide
    rw [p] at hu ⊢
    have k := add_shl u2 d 0 1 hd (by decide) (by decide) (by omega) (by decide)
    show U.val (u0, u1, (I.add u2 (I.shl (I.of .u64 d) (I.of .u64 (16 * 0 : Nat)))), u3, ()) = _
    unfold U.val
    simp only
    omega
  · have p : 65536 ^ 9 = 22300745198530623141535718272648361505980416 := by decide
    rw [p] at hu ⊢
    have k := add_shl u2 d 1 65536 hd (by decide) (by decide) (by omega) (by decide)
    show U.val (u0, u1, (I.add u2 (I.shl (I.of .u64 d) (I.of .u64 (16 * 1 : Nat)))), u3, ()) = _
    unfold U.val
    simp only
    omega
  · have p : 65536 ^ 10 = 1461501637330902918203684832716283019655932542976 := by decide
    rw [p] at hu ⊢
    have k := add_shl u2 d 2 4294967296 hd (by decide) (by decide) (by omega) (by decide)
    show U.val (u0, u1, (I.add u2 (I.shl (I.of .u64 d) (I.of .u64 (16 * 2 : Nat)))), u3, ()) = _
    unfold U.val
    simp only
    omega
  · have p : 65536 ^ 11 = 95780971304118053647396689196894323976171195136475136 := by decide
    rw [p] at hu ⊢
    have k := add_shl u2 d 3 281474976710656 hd (by decide) (by decide) (by omega) (by decide)
    show U.val (u0, u1, (I.add u2 (I.shl (I.of .u64 d) (I.of .u64 (16 * 3 : Nat)))), u3, ()) = _
    unfold U.val
    simp only
    omega
  · have p : 65536 ^ 12 = 6277101735386680763835789423207666416102355444464034512896 := by decide
    rw [p] at hu ⊢
    have k := add_shl u3 d 0 1 hd (by decide) (by decide) (by omega) (by decide)
    show U.val (u0, u1, u2, (I.add u3 (I.shl (I.of .u64 d) (I.of .u64 (16 * 0 : Nat)))), ()) = _
    unfold U.val
    simp only
    omega
  · have p : 65536 ^ 13 = 411376139330301510538742295639337626245683966408394965837152256 := by decide
    rw [p] at hu ⊢
    have k := add_shl u3 d 1 65536 hd (by decide) (by decide) (by omega) (by decide)
    show U.val (u0, u1, u2, (I.add u3 (I.shl (I.of .u64 d) (I.of .u64 (16 * 1 : Nat)))), ()) = _
    unfold U.val
    simp only
    omega
  · have p : 65536 ^ 14 = 26959946667150639794667015087019630673637144422540572481103610249216 := by decide
    rw [p] at hu ⊢
    have k := add_shl u3 d 2 4294967296 hd (by decide) (by decide) (by omega) (by decide)
    show U.val (u0, u1, u2, (I.add u3 (I.shl (I.of .u64 d) (I.of .u64 (16 * 2 : Nat)))), ()) = _
    unfold U.val
    simp only
    omega
  · have p : 65536 ^ 15 = 1766847064778384329583297500742918515827483896875618958121606201292619776 := by decide
    rw [p] at hu ⊢
    have k := add_shl u3 d 3 281474976710656 hd (by decide) (by decide) (by omega) (by decide)
    show U.val (u0, u1, u2, (I.add u3 (I.shl (I.of .u64 d) (I.of .u64 (16 * 3 : Nat)))), ()) = _
    unfold U.val
    simp only
    omega

theorem bv_take_succ {l : List Dg} {i : Nat} (h : i < l.length) : bv (l.take (i + 1)) = bv (l.take i) + 65536 ^ i * (l[i]).nat := by
  rw [← List.take_append_getElem h, bv_app]
  have e : (l.take i).length = i := by simp; omega
  simp [bv, e]

theorem ToUint256_ok {l : List Dg} {n : Nat} (hl : IsB l n) (hn : n < U.top) : pontageref1_ToUint256 ((l, ()), ()) = some ((U.of n, ()), ()) := by
  have ht : U.top = 65536 ^ 16 := by decide
  have hlen : l.length ≤ 16 := hl.len.2 (by rw [← ht]; exact hn)
  have c16 : (I.of .i64 16).val = 16 := rfl
  have c4 : (I.of .i64 4).val = 4 := rfl
  have c1 : (I.of .i64 1).val = 1 := rfl
  have hol : (I.ofNat .i64 (lenL l)).val = l.length := ofNat_i64 (by show l.length < _; omega)
  have key : Wp (fun o => o = some ((U.of n, ()), ())) (pontageref1_ToUint256 ((l, ()), ())) := by
    unfold pontageref1_ToUint256
    refine Wp.iter (fun x => x.1.1 = l ∧ 0 ≤ x.1.2.1.val ∧ x.1.2.1.val ≤ (l.length : Int) ∧ U.val x.2.2.1 = bv (l.take x.1.2.1.val.toNat)) (fun x => ((l.length : Int) - x.1.2.1.val).toNat) ?_ ?_ ?_
    · rintro ⟨⟨l', i, ⟨⟩⟩, r0, u, ⟨⟩⟩ ⟨e1, hi0, hi1, hu⟩
      simp only at e1 hi0 hi1 hu
      subst e1
      have fin : i.val.toNat = l'.length → u = U.of n := by
        intro e
        rw [e, List.take_length, hl.val] at hu
        rw [← hu]
        exact (U.of_val u).symm
      refine Wp.brn (fun h => ?_) (fun h => ?_)
      · have h := iff_ltb.1 h
        simp only [hol] at h
        have hlt : i.val.toNat < l'.length := by omega
        refine Wp.brnT (iff_ltb.2 (by show i.val < (I.of .i64 16).val; omega)) ?_
        have hq : (I.quo i (I.of .i64 4)).val = i.val / 4 := quo_i64 hi0 (by decide)
        have hr : (I.rem i (I.of .i64 4)).val = i.val % 4 := rem_i64 hi0 (by decide)
        have hs : (I.add i (I.of .i64 1)).val = i.val + 1 := by rw [add_i64 (by omega)]; omega
        have hm : (I.mul (I.of .i64 16) (I.rem i (I.of .i64 4))).val = 16 * (i.val % 4) := by rw [mul_i64 (by rw [c16, hr]; omega), hr, c16]
        have hin : inB (I.quo i (I.of .i64 4)) 4 = true := iff_inB.2 ⟨by omega, by omega⟩
        refine Wp.brnT hin ?_
        refine Wp.brnT (iff_inB.2 ⟨hi0, by show i.val < ((l'.length : Nat) : Int); omega⟩) ?_
        refine Wp.brnT (nn_u64 _) ?_
        refine Wp.brnT hin ?_
        have hdig : DigOk l'[i.val.toNat] := hl.dig _ (List.getElem_mem hlt)
        have hrd : rdL (I.of .i64 0) l' (I.nat i) = l'[i.val.toNat] := rdL_eq _ _ _ hlt
        have e1 : I.nat (I.quo i (I.of .i64 4)) = i.val.toNat / 4 := by unfold I.nat; omega
        have e2 : I.conv .u64 (I.mul (I.of .i64 16) (I.rem i (I.of .i64 4))) = I.of .u64 (16 * (i.val.toNat % 4) : Nat) := by
          show I.of .u64 _ = _
          rw [hm]
          congr 1
          omega
        have e3 : I.conv .u64 (rdL (I.of .i64 0) l' (I.nat i)) = I.of .u64 ((l'[i.val.toNat]).nat : Int) := by
          show I.of .u64 _ = _
          rw [hrd, hdig.nat.1]
        have hub : U.val u < 65536 ^ i.val.toNat := by
          rw [hu]
          have := bv_lt (digs_take hl.dig i.val.toNat)
          rw [List.length_take] at this
          rwa [Nat.min_eq_left (by omega)] at this
        have st := toU_step u (l'[i.val.toNat]).nat i.val.toNat (by omega) hub hdig.nat.2
        refine Wp.again ⟨rfl, ?_, ?_, ?_⟩ ?_
        · show 0 ≤ (I.add i (I.of .i64 1)).val; omega
        · show (I.add i (I.of .i64 1)).val ≤ _; omega
        · show U.val (Arr.upd 4 u (I.nat (I.quo i (I.of .i64 4))) (I.add (Arr.sel (I.of .u64 0) 4 u (I.nat (I.quo i (I.of .i64 4)))) (I.shl (I.conv .u64 (rdL (I.of .i64 0) l' (I.nat i))) (I.conv .u64 (I.mul (I.of .i64 16) (I.rem i (I.of .i64 4))))))) = bv (l'.take (I.add i (I.of .i64 1)).val.toNat)
          have e4 : (I.add i (I.of .i64 1)).val.toNat = i.val.toNat + 1 := by omega
          rw [e1, e2, e3, e4, st, bv_take_succ hlt, ← hu]
        · show ((l'.length : Int) - (I.add i (I.of .i64 1)).val).toNat < _
          simp only; omega
      · have h := niff_ltb.1 h
        simp only [hol] at h
        have := fin (by omega)
        subst this
        exact Wp.done rfl
    · refine ⟨rfl, by show 0 ≤ (I.of .i64 0).val; decide, by show (I.of .i64 0).val ≤ (l.length : Int); have : (I.of .i64 0).val = 0 := rfl; omega, ?_⟩
      show U.val _ = bv (l.take (I.of .i64 0).val.toNat)
      rfl
    · exact K0_ge _ (by show ((l.length : Int) - (I.of .i64 0).val).toNat < _; have : (I.of .i64 0).val = 0 := rfl; omega)
  exact key.out

def errS (n : Nat) : U × I .i64 := if n < U.top then (U.of n, I.of .i64 0) else (U.of 0, I.of .i64 4)

theorem Fits_ok {l : List Dg} {n : Nat} (hl : IsB l n) (hlen : l.length < 9223372036854775808) : pontageref1_Fits ((l, ()), ()) = some ((decide (n < U.top), ()), ()) := by
  have ht : U.top = 65536 ^ 16 := by decide
  have h := hl.len (k := 16)
  have hol : (I.ofNat .i64 (lenL l)).val = l.length := ofNat_i64 hlen
  have c16 : (I.of .i64 16).val = 16 := rfl
  have e : I.leb (I.ofNat .i64 (lenL l)) (I.of .i64 16) = decide (n < U.top) := by
    unfold I.leb
    rw [hol, c16, ht]
    by_cases hc : l.length ≤ 16
    · have := h.1 hc
      simp [this]; omega
    · have : ¬ n < 65536 ^ 16 := fun hh => hc (h.2 hh)
      simp [this]; omega
  refine Wp.out (T := fun o => o = _) ?_
  unfold pontageref1_Fits
  show some ((I.leb (I.ofNat .i64 (lenL l)) (I.of .i64 16), ()), ()) = _
  rw [e]

theorem Checked_ok {l : List Dg} {n : Nat} (hl : IsB l n) (hlen : l.length < 9223372036854775808) : pontageref1_Checked ((l, ()), ()) = some (((errS n).1, (errS n).2, ()), ()) := by
  refine Wp.out (T := fun o => o = _) ?_
  unfold pontageref1_Checked errS
  refine Wp.optF (Fits_ok hl hlen) ?_
  by_cases h : n < U.top
  · refine Wp.brnF (by show (!decide (n < U.top)) = false; simp [h]) ?_
    refine Wp.optF (ToUint256_ok hl h) ?_
    show _ = _
    rw [if_pos h]
    rfl
  · refine Wp.brnT (by show (!decide (n < U.top)) = true; simp [h]) ?_
    show _ = _
    rw [if_neg h]
    rfl

theorem Checked_ok' {l : List Dg} {n : Nat} (hl : IsB l n) (hlen : l.length ≤ 1000000) : pontageref1_Checked ((l, ()), ()) = some (((errS n).1, (errS n).2, ()), ()) := Checked_ok hl (by omega)

def u64U (x : I .u64) : U := (x, I.of .u64 0, I.of .u64 0, I.of .u64 0, ())

theorem u64U_val (x : I .u64) : (u64U x).val = x.nat := by
  unfold u64U U.val
  have : (I.of .u64 0).nat = 0 := rfl
  simp only [this]
  omega

theorem FromUint64_ok (x : I .u64) : ∃ r, pontageref1_FromUint64 ((x, ()), ()) = some ((r, ()), ()) ∧ IsB r x.nat := by
  obtain ⟨r, hr, hB⟩ := FromUint256_ok (u64U x)
  rw [u64U_val] at hB
  refine ⟨r, ?_, hB⟩
  refine Wp.out (T := fun o => o = _) ?_
  unfold pontageref1_FromUint64
  exact Wp.optF hr rfl
end Sym

/- Natural numbers by digits of 65536: sums, differences, comparison. -/
namespace Sym
open Go

theorem rdL_out {X : Type} (d : X) : ∀ (l : List X) (i : Nat), l.length ≤ i → rdL d l i = d
  | [], _, _ => rfl
  | x :: l, 0, h => by simp at h
  | x :: l, i + 1, h => rdL_out d l i (by simpa using h)

abbrev rd0 (l : List Dg) (i : Nat) : Dg := rdL (I.of .i64 0) l i

theorem digOk0 : DigOk (I.of .i64 0) := by unfold DigOk; decide

theorem rd0_ok {l : List Dg} (h : Digs l) (i : Nat) : DigOk (rd0 l i) := by
  rcases Nat.lt_or_ge i l.length with hi | hi
  · rw [rd0, rdL_eq _ _ _ hi]; exact h _ (List.getElem_mem hi)
  · rw [rd0, rdL_out _ _ _ hi]; exact digOk0

theorem rd0_zero {l : List Dg} {i : Nat} (h : l.length ≤ i) : (rd0 l i).nat = 0 := by rw [rd0, rdL_out _ _ _ h]; rfl

theorem bv_drop : ∀ (l : List Dg) (i : Nat), bv (l.drop i) = (rd0 l i).nat + 65536 * bv (l.drop (i + 1))
  | [], i => by simp [bv, rd0, rdL]; rfl
  | x :: l, 0 => by simp [bv, rd0, rdL]
  | x :: l, i + 1 => by simpa [rd0, rdL] using bv_drop l i

theorem bv_take1 (l : List Dg) (i : Nat) : bv (l.take (i + 1)) = bv (l.take i) + 65536 ^ i * (rd0 l i).nat := by
  rcases Nat.lt_or_ge i l.length with hi | hi
  · rw [bv_take_succ hi, rd0, rdL_eq _ _ _ hi]
  · rw [rd0_zero hi, List.take_of_length_le (by omega), List.take_of_length_le hi]; simp

theorem lead_last : ∀ {l : List Dg}, Lead l → ∀ (i : Nat), i + 1 = l.length → (rd0 l i).val ≠ 0
  | [], _, i, h => by simp at h
  | [d], h, i, hi => by
    have : i = 0 := by simpa using hi
    subst this
    exact h
  | d :: e :: l, h, 0, hi => by simp at hi
  | d :: e :: l, h, i + 1, hi => lead_last (l := e :: l) h i (by simpa using hi)

structure AddInv (a b : List Dg) (over i : I .i64) (out : List Dg) : Prop where
  o0 : 0 ≤ over.val
  o1 : over.val ≤ 1
  i0 : 0 ≤ i.val
  i1 : i.val ≤ max a.length b.length ∨ (over.val = 0 ∧ i.val = max a.length b.length + 1)
  len : (out.length : Int) = i.val
  dig : Digs out
  sum : bv out + 65536 ^ i.val.toNat * (over.nat + bv (a.drop i.val.toNat) + bv (b.drop i.val.toNat)) = bv a + bv b
  lead : over.val = 0 → (a.length : Int) ≤ i.val → (b.length : Int) ≤ i.val → Lead out

theorem add_step {a b : List Dg} {over i s : I .i64} {out : List Dg} (ha : Digs a) (hb : Digs b) (la : Lead a) (lb : Lead b) (hal : a.length ≤ 1000000) (hbl : b.length ≤ 1000000) (h : AddInv a b over i out)
    (hc : i.val < a.length ∨ i.val < b.length ∨ 0 < over.val) (hs : s.val = over.val + (rd0 a i.val.toNat).val + (rd0 b i.val.toNat).val) :
    AddInv a b (I.shr s (I.of .u64 16)) (I.add i (I.of .i64 1)) (appL out [I.and s (I.of .i64 65535)]) := by
  have c1 : (I.of .i64 1).val = 1 := rfl
  have da := rd0_ok ha i.val.toNat
  have db := rd0_ok hb i.val.toNat
  have da2 := da.nat
  have db2 := db.nat
  unfold DigOk at da db
  have ho0 := h.o0
  have ho1 := h.o1
  have hi0 := h.i0
  have hi1 := h.i1
  have hsh := shr_i64_16 s (by omega)
  have han := and_i64 s (by omega)
  have hi : (I.add i (I.of .i64 1)).val = i.val + 1 := by rw [add_i64 (by omega)]; omega
  have hin : (I.add i (I.of .i64 1)).val.toNat = i.val.toNat + 1 := by omega
  have hout : out.length = i.val.toNat := by have := h.len; omega
  refine ⟨by omega, by omega, by omega, ?_, ?_, ?_, ?_, ?_⟩
  · rcases hi1 with hi1 | hi1
    · rcases Int.lt_or_le i.val (max a.length b.length) with hlt | hge
      · left; omega
      · right
        have z1 := rd0_zero (l := a) (i := i.val.toNat) (by omega)
        have z2 := rd0_zero (l := b) (i := i.val.toNat) (by omega)
        omega
    · exfalso; omega
  · show ((appL out [_]).length : Int) = _
    simp only [appL, List.length_append, List.length_singleton]
    have := h.len
    omega
  · exact digs_app.2 ⟨h.dig, digs_cons.2 ⟨by unfold DigOk; omega, fun _ h => by simp at h⟩⟩
  · have hsum := h.sum
    rw [bv_drop a, bv_drop b] at hsum
    rw [hin]
    have hn1 : (I.and s (I.of .i64 65535)).nat + 65536 * (I.shr s (I.of .u64 16)).nat = over.nat + (rd0 a i.val.toNat).nat + (rd0 b i.val.toNat).nat := by
      unfold I.nat at *
      omega
    have e : over.nat + ((rd0 a i.val.toNat).nat + 65536 * bv (a.drop (i.val.toNat + 1))) + ((rd0 b i.val.toNat).nat + 65536 * bv (b.drop (i.val.toNat + 1))) =
        (I.and s (I.of .i64 65535)).nat + 65536 * ((I.shr s (I.of .u64 16)).nat + bv (a.drop (i.val.toNat + 1)) + bv (b.drop (i.val.toNat + 1))) := by omega
    rw [e, Nat.mul_add, ← Nat.mul_assoc] at hsum
    rw [← hsum, appL, bv_app, hout, Nat.pow_succ]
    simp only [bv, Nat.mul_zero, Nat.add_zero]
    omega
  · intro hz h1 h2
    refine lead_snoc _ _ ?_
    intro hz2
    have hs0 : s.val = 0 := by omega
    rcases hc with hc | hc | hc
    · have := lead_last la i.val.toNat (by omega)
      omega
    · have := lead_last lb i.val.toNat (by omega)
      omega
    · omega

theorem Add_ok {a b : List Dg} {m n : Nat} (ha : IsB a m) (hb : IsB b n) (hal : a.length ≤ 1000000) (hbl : b.length ≤ 1000000) : ∃ r, pontageref1_Add ((a, b, ()), ()) = some ((r, ()), ()) ∧ IsB r (m + n) := by
  have hol : (I.ofNat .i64 (lenL a)).val = a.length := ofNat_i64 (by show a.length < _; omega)
  have hol2 : (I.ofNat .i64 (lenL b)).val = b.length := ofNat_i64 (by show b.length < _; omega)
  have c0 : (I.of .i64 0).val = 0 := rfl
  have key : Wp (fun o => ∃ r, o = some ((r, ()), ()) ∧ IsB r (m + n)) (pontageref1_Add ((a, b, ()), ())) := by
    unfold pontageref1_Add
    refine Wp.iter (fun x => x.1.1 = a ∧ x.1.2.1 = b ∧ AddInv a b x.1.2.2.1 x.1.2.2.2.1 x.2.1) (fun x => ((max a.length b.length : Int) + 2 - x.1.2.2.2.1.val).toNat) ?_ ?_ ?_
    · rintro ⟨⟨a', b', over, i, ⟨⟩⟩, out, ⟨⟩⟩ ⟨e1, e2, hI⟩
      simp only at e1 e2 hI
      subst e1 e2
      have hi0 := hI.i0
      have hi1 := hI.i1
      have ho0 := hI.o0
      have ho1 := hI.o1
      have again : ∀ (s : I .i64), (i.val < a'.length ∨ i.val < b'.length ∨ 0 < over.val) → s.val = over.val + (rd0 a' i.val.toNat).val + (rd0 b' i.val.toNat).val →
          AddInv a' b' (I.shr s (I.of .u64 16)) (I.add i (I.of .i64 1)) (appL out [I.and s (I.of .i64 65535)]) ∧ ((max a'.length b'.length : Int) + 2 - (I.add i (I.of .i64 1)).val).toNat < ((max a'.length b'.length : Int) + 2 - i.val).toNat := by
        intro s hc hs
        refine ⟨add_step ha.dig hb.dig ha.lead hb.lead hal hbl hI hc hs, ?_⟩
        have c1 : (I.of .i64 1).val = 1 := rfl
        have hi : (I.add i (I.of .i64 1)).val = i.val + 1 := by rw [add_i64 (by omega)]; omega
        omega
      have fits : fitsLen (lenL (appL out [I.of .i64 0])) = true := iff_fits.2 (by show (appL out [_]).length ≤ _; rw [appL, List.length_append, List.length_singleton]; have := hI.len; omega)
      have fits' : ∀ d : Dg, fitsLen (lenL (appL out [d])) = true := fun d => iff_fits.2 (by show (appL out [_]).length ≤ _; rw [appL, List.length_append, List.length_singleton]; have := hI.len; omega)
      refine Wp.jn (fun x => x.1.1 = a' ∧ x.1.2.1 = b' ∧ x.1.2.2.1 = over ∧ x.1.2.2.2.1 = i ∧ x.2.1 = out ∧ (i.val < a'.length ∨ i.val < b'.length ∨ 0 < over.val)) ?_ ?_
      · rintro ⟨⟨a1, b1, over1, i1, ⟨⟩⟩, out1, ⟨⟩⟩ ⟨e1, e2, e3, e4, e5, hc⟩
        simp only at e1 e2 e3 e4 e5
        subst e1 e2 e3 e4 e5
        have ra := rd0_ok ha.dig i1.val.toNat
        have rb := rd0_ok hb.dig i1.val.toNat
        unfold DigOk at ra rb
        refine Wp.jn (fun x => x.1.1 = a1 ∧ x.1.2.1 = b1 ∧ x.1.2.2.1.val = over1.val + (rd0 a1 i1.val.toNat).val ∧ x.1.2.2.2.1 = i1 ∧ x.2.1 = out1) ?_ ?_
        · rintro ⟨⟨a2, b2, over2, i2, ⟨⟩⟩, out2, ⟨⟩⟩ ⟨e1, e2, e3, e4, e5⟩
          simp only at e1 e2 e3 e4 e5
          subst e1 e2 e4 e5
          refine Wp.brn (fun h => ?_) (fun h => ?_)
          · have h := iff_ltb.1 h
            simp only [hol2] at h
            refine Wp.brnT (iff_inB.2 ⟨hi0, by show i2.val < ((b2.length : Nat) : Int); omega⟩) ?_
            have hs : (I.add over2 (rd0 b2 i2.val.toNat)).val = over1.val + (rd0 a2 i2.val.toNat).val + (rd0 b2 i2.val.toNat).val := by rw [add_i64 (by omega)]; omega
            have := again _ hc hs
            exact Wp.brnT (fits' _) (Wp.again ⟨rfl, rfl, this.1⟩ this.2)
          · have h := niff_ltb.1 h
            simp only [hol2] at h
            have hz := rd0_zero (l := b2) (i := i2.val.toNat) (by omega)
            have hz2 : (rd0 b2 i2.val.toNat).val = 0 := by unfold I.nat at hz; omega
            have := again over2 hc (by omega)
            exact Wp.brnT (fits' _) (Wp.again ⟨rfl, rfl, this.1⟩ this.2)
        · intro j2 hj2
          refine Wp.brn (fun h => ?_) (fun h => ?_)
          · have h := iff_ltb.1 h
            simp only [hol] at h
            refine Wp.brnT (iff_inB.2 ⟨hi0, by show i1.val < ((a1.length : Nat) : Int); omega⟩) ?_
            exact hj2 _ ⟨rfl, rfl, add_i64 (by show _ ≤ over1.val + (rd0 a1 i1.val.toNat).val ∧ over1.val + (rd0 a1 i1.val.toNat).val < _; omega), rfl, rfl⟩
          · have h := niff_ltb.1 h
            simp only [hol] at h
            have hz := rd0_zero (l := a1) (i := i1.val.toNat) (by omega)
            have hz2 : (rd0 a1 i1.val.toNat).val = 0 := by unfold I.nat at hz; omega
            exact hj2 _ ⟨rfl, rfl, by show over1.val = _; omega, rfl, rfl⟩
      · intro j1 hj1
        refine Wp.brn (fun h => ?_) (fun h => ?_)
        · have h := iff_ltb.1 h
          simp only [hol] at h
          exact hj1 _ ⟨rfl, rfl, rfl, rfl, rfl, .inl h⟩
        · have h := niff_ltb.1 h
          simp only [hol] at h
          refine Wp.brn (fun h2 => ?_) (fun h2 => ?_)
          · have h2 := iff_ltb.1 h2
            simp only [hol2] at h2
            exact hj1 _ ⟨rfl, rfl, rfl, rfl, rfl, .inr (.inl h2)⟩
          · have h2 := niff_ltb.1 h2
            simp only [hol2] at h2
            refine Wp.brn (fun h3 => ?_) (fun h3 => ?_)
            · have h3 := iff_ltb.1 h3
              simp only [c0] at h3
              exact hj1 _ ⟨rfl, rfl, rfl, rfl, rfl, .inr (.inr h3)⟩
            · have h3 := niff_ltb.1 h3
              simp only [c0] at h3
              refine Wp.done ⟨out, rfl, hI.dig, hI.lead (by omega) (by omega) (by omega), ?_⟩
              have hsum := hI.sum
              have hz : over.nat = 0 := by unfold I.nat; omega
              rw [List.drop_of_length_le (l := a') (by omega), List.drop_of_length_le (l := b') (by omega), hz] at hsum
              simp only [bv, Nat.mul_zero, Nat.add_zero] at hsum
              rw [hsum, ha.val, hb.val]
    · refine ⟨rfl, rfl, ?_⟩
      show AddInv a b (I.of .i64 0) (I.of .i64 0) []
      refine ⟨by decide, by decide, by decide, ?_, rfl, fun _ h => by simp at h, ?_, fun _ _ _ => trivial⟩
      · left; show (I.of .i64 0).val ≤ _; omega
      · show bv [] + 65536 ^ (I.of .i64 0).val.toNat * ((I.of .i64 0).nat + bv (a.drop (I.of .i64 0).val.toNat) + bv (b.drop (I.of .i64 0).val.toNat)) = _
        have e : (I.of .i64 0).val.toNat = 0 := rfl
        have e2 : (I.of .i64 0).nat = 0 := rfl
        rw [e, e2]
        simp [bv]
    · exact K0_ge _ (by show ((max a.length b.length : Int) + 2 - (I.of .i64 0).val).toNat < _; omega)
  exact key.out
end Sym

/- Natural numbers by digits of 65536: differences, comparison. -/
namespace Sym
open Go

theorem repL_digs : ∀ (n : Nat), Digs (repL n (I.of .i64 0))
  | 0 => fun _ h => by simp [repL] at h
  | n + 1 => digs_cons.2 ⟨digOk0, repL_digs n⟩

theorem repL_length {X : Type} : ∀ (n : Nat) (x : X), (repL n x).length = n
  | 0, _ => rfl
  | n + 1, x => by simp [repL, repL_length n x]

theorem take_set_succ {X : Type} (l : List X) (i : Nat) (v : X) (h : i < l.length) : (l.set i v).take (i + 1) = l.take i ++ [v] := by
  have h2 : i < (l.set i v).length := by simpa using h
  rw [← List.take_append_getElem h2]
  simp [List.take_set_of_le]

theorem digs_set {l : List Dg} (h : Digs l) (i : Nat) {d : Dg} (hd : DigOk d) : Digs (l.set i d) := by
  intro e he
  rcases List.mem_or_eq_of_mem_set he with h1 | h1
  · exact h e h1
  · subst h1; exact hd

structure SubInv (a b : List Dg) (under i : I .i64) (out : List Dg) : Prop where
  u0 : 0 ≤ under.val
  u1 : under.val ≤ 1
  i0 : 0 ≤ i.val
  i1 : i.val ≤ a.length
  len : out.length = a.length
  dig : Digs out
  sum : bv (out.take i.val.toNat) + bv (b.take i.val.toNat) = bv (a.take i.val.toNat) + 65536 ^ i.val.toNat * under.nat

theorem sub_step {a b : List Dg} {under i d un : I .i64} {out : List Dg} (ha : Digs a) (hb : Digs b) (hal : a.length ≤ 1000000) (h : SubInv a b under i out) (hc : i.val < a.length)
    (hd : DigOk d) (hu : un.val = 0 ∨ un.val = 1) (hs : d.val = (rd0 a i.val.toNat).val - under.val - (rd0 b i.val.toNat).val + 65536 * un.val) :
    SubInv a b un (I.add i (I.of .i64 1)) (setAt out (I.nat i) d) := by
  have c1 : (I.of .i64 1).val = 1 := rfl
  have da2 := (rd0_ok ha i.val.toNat).nat
  have db2 := (rd0_ok hb i.val.toNat).nat
  have hd2 := hd.nat
  have hu0 := h.u0
  have hu1 := h.u1
  have hi0 := h.i0
  have hi : (I.add i (I.of .i64 1)).val = i.val + 1 := by rw [add_i64 (by omega)]; omega
  have hin : (I.add i (I.of .i64 1)).val.toNat = i.val.toNat + 1 := by omega
  have hlen := h.len
  have hni : I.nat i = i.val.toNat := rfl
  rw [setAt_eq, hni]
  refine ⟨by omega, by omega, by omega, by omega, by simpa using hlen, digs_set h.dig _ hd, ?_⟩
  rw [hin, take_set_succ _ _ _ (by omega), bv_app, bv_take1 a, bv_take1 b]
  have el : (out.take i.val.toNat).length = i.val.toNat := by simp; omega
  rw [el, Nat.pow_succ]
  simp only [bv, Nat.mul_zero, Nat.add_zero]
  have hsum := h.sum
  have e : d.nat + (rd0 b i.val.toNat).nat + under.nat = (rd0 a i.val.toNat).nat + 65536 * un.nat := by
    unfold I.nat at *
    omega
  have e2 := congrArg (fun z => 65536 ^ i.val.toNat * z) e
  simp only [Nat.mul_add] at e2
  rw [← Nat.mul_assoc] at e2
  omega

theorem Sub_ok {a b : List Dg} {m n : Nat} (ha : IsB a m) (hb : IsB b n) (hmn : n ≤ m) (hal : a.length ≤ 1000000) : ∃ r, pontageref1_Sub ((a, b, ()), ()) = some ((r, ()), ()) ∧ IsB r (m - n) := by
  have hbl : b.length ≤ a.length := hb.len.2 (Nat.lt_of_le_of_lt hmn (ha.len.1 (Nat.le_refl _)))
  have hol : (I.ofNat .i64 (lenL a)).val = a.length := ofNat_i64 (by show a.length < _; omega)
  have hol2 : (I.ofNat .i64 (lenL b)).val = b.length := ofNat_i64 (by show b.length < _; omega)
  have c0 : (I.of .i64 0).val = 0 := rfl
  have hn : I.nat (I.ofNat .i64 (lenL a)) = a.length := by unfold I.nat; omega
  have key : Wp (fun o => ∃ r, o = some ((r, ()), ()) ∧ IsB r (m - n)) (pontageref1_Sub ((a, b, ()), ())) := by
    unfold pontageref1_Sub
    refine Wp.brnT ?_ ?_
    · show (decide (0 ≤ (I.ofNat .i64 (lenL a)).val) && decide ((I.ofNat .i64 (lenL a)).val ≤ ((I.nat (I.ofNat .i64 (lenL a)) : Nat) : Int))) = true
      rw [hn, hol]; simp
    refine Wp.brnT ?_ ?_
    · show (decide (0 ≤ (I.ofNat .i64 (lenL a)).val) && decide ((I.ofNat .i64 (lenL a)).val ≤ ((1073741824 : Nat) : Int))) = true
      rw [hol]; simp; omega
    refine Wp.iter (fun x => x.1.1 = a ∧ x.1.2.1 = b ∧ SubInv a b x.1.2.2.1 x.1.2.2.2.1 x.2.1) (fun x => ((a.length : Int) - x.1.2.2.2.1.val).toNat) ?_ ?_ ?_
    · rintro ⟨⟨a', b', under, i, ⟨⟩⟩, out, ⟨⟩⟩ ⟨e1, e2, hI⟩
      simp only at e1 e2 hI
      subst e1 e2
      have hi0 := hI.i0
      have hi1 := hI.i1
      have hu0 := hI.u0
      have hu1 := hI.u1
      refine Wp.brn (fun h => ?_) (fun h => ?_)
      · have hlt := iff_ltb.1 h
        simp only [hol] at hlt
        clear h
        have ra := rd0_ok ha.dig i.val.toNat
        have rb := rd0_ok hb.dig i.val.toNat
        have ra' := ra
        have rb' := rb
        unfold DigOk at ra rb
        have c1 : (I.of .i64 1).val = 1 := rfl
        have hi : (I.add i (I.of .i64 1)).val = i.val + 1 := by rw [add_i64 (by omega)]; omega
        have hm : ((a'.length : Int) - (I.add i (I.of .i64 1)).val).toNat < ((a'.length : Int) - i.val).toNat := by omega
        have hlen := hI.len
        refine Wp.brnT (iff_inB.2 ⟨hi0, by show i.val < ((a'.length : Nat) : Int); omega⟩) ?_
        refine Wp.jn (fun x => x.1.1 = a' ∧ x.1.2.1 = b' ∧ x.1.2.2.1 = i ∧ x.1.2.2.2.1.val = (rd0 a' i.val.toNat).val - under.val - (rd0 b' i.val.toNat).val ∧ x.2.1 = out) ?_ ?_
        · rintro ⟨⟨a1, b1, i1, x, ⟨⟩⟩, out1, ⟨⟩⟩ ⟨e1, e2, e3, e4, e5⟩
          simp only at e1 e2 e3 e4 e5
          subst e1 e2 e3 e5
          refine Wp.brn (fun h2 => ?_) (fun h2 => ?_)
          · have h2 := iff_ltb.1 h2
            simp only [c0] at h2
            refine Wp.brnT (iff_inB.2 ⟨hi0, by show i1.val < ((out1.length : Nat) : Int); omega⟩) ?_
            have c6 : (I.of .i64 65536).val = 65536 := rfl
            have hx : (I.add x (I.of .i64 65536)).val = x.val + 65536 := by rw [add_i64 (by omega)]; omega
            have st := sub_step (un := I.of .i64 1) (d := I.add x (I.of .i64 65536)) ha.dig hb.dig hal hI hlt (by unfold DigOk; omega) (.inr rfl) (by omega)
            exact Wp.again ⟨rfl, rfl, st⟩ hm
          · have h2 := niff_ltb.1 h2
            simp only [c0] at h2
            refine Wp.brnT (iff_inB.2 ⟨hi0, by show i1.val < ((out1.length : Nat) : Int); omega⟩) ?_
            have st := sub_step (un := I.of .i64 0) (d := x) ha.dig hb.dig hal hI hlt (by unfold DigOk; omega) (.inl rfl) (by omega)
            exact Wp.again ⟨rfl, rfl, st⟩ hm
        · intro j hj
          have hs1 : (I.sub (rd0 a' i.val.toNat) under).val = (rd0 a' i.val.toNat).val - under.val := sub_i64 (by omega)
          refine Wp.brn (fun h2 => ?_) (fun h2 => ?_)
          · have h2 := iff_ltb.1 h2
            simp only [hol2] at h2
            refine Wp.brnT (iff_inB.2 ⟨hi0, by show i.val < ((b'.length : Nat) : Int); omega⟩) ?_
            refine hj _ ⟨rfl, rfl, rfl, ?_, rfl⟩
            show (I.sub (I.sub (rd0 a' i.val.toNat) under) (rd0 b' i.val.toNat)).val = _
            rw [sub_i64 (by omega), hs1]
          · have h2 := niff_ltb.1 h2
            simp only [hol2] at h2
            have hz := rd0_zero (l := b') (i := i.val.toNat) (by omega)
            have hz2 : (rd0 b' i.val.toNat).val = 0 := by unfold I.nat at hz; omega
            refine hj _ ⟨rfl, rfl, rfl, ?_, rfl⟩
            show (I.sub (rd0 a' i.val.toNat) under).val = _
            omega
      · have h := niff_ltb.1 h
        simp only [hol] at h
        have hlen := hI.len
        have hsum := hI.sum
        have hi : i.val.toNat = a'.length := by omega
        rw [hi, List.take_of_length_le (by omega), List.take_of_length_le hbl, List.take_length, ha.val, hb.val] at hsum
        have hlt := bv_lt hI.dig
        rw [hlen] at hlt
        have hz : under.nat = 0 := by
          unfold I.nat
          rcases Int.lt_or_le under.val 1 with h1 | h1
          · omega
          · exfalso
            have : under.nat = 1 := by unfold I.nat; omega
            rw [this] at hsum
            omega
        rw [hz, Nat.mul_zero, Nat.add_zero] at hsum
        obtain ⟨r, hr, hB⟩ := norm_ok out hI.dig (by omega)
        exact Wp.done (Wp.optF hr ⟨r, rfl, hB.dig, hB.lead, by rw [hB.val]; omega⟩)
    · refine ⟨rfl, rfl, ?_⟩
      show SubInv a b (I.of .i64 0) (I.of .i64 0) (repL (I.nat (I.ofNat .i64 (lenL a))) (I.of .i64 0))
      rw [hn]
      have e : (I.of .i64 0).val.toNat = 0 := rfl
      refine ⟨by decide, by decide, by decide, by omega, repL_length _ _, repL_digs _, ?_⟩
      rw [e]
      rfl
    · exact K0_ge _ (by show ((a.length : Int) - (I.of .i64 0).val).toNat < _; omega)
  exact key.out

/-- -1, 0 or 1. -/
def cmpN (m n : Nat) : I .i64 := if m < n then I.of .i64 (-1) else if n < m then I.of .i64 1 else I.of .i64 0

theorem cmp_at {a b : List Dg} (ha : Digs a) (hb : Digs b) (i : Nat) (hd : bv (a.drop (i + 1)) = bv (b.drop (i + 1))) (hlt : (rd0 a i).nat < (rd0 b i).nat) (hia : i ≤ a.length) (hib : i ≤ b.length) : bv a < bv b := by
  have e1 : bv a = bv (a.take i) + 65536 ^ i * bv (a.drop i) := by
    have := bv_app (a.take i) (a.drop i)
    rw [List.take_append_drop] at this
    rw [this]; simp [Nat.min_eq_left hia]
  have e2 : bv b = bv (b.take i) + 65536 ^ i * bv (b.drop i) := by
    have := bv_app (b.take i) (b.drop i)
    rw [List.take_append_drop] at this
    rw [this]; simp [Nat.min_eq_left hib]
  have h1 := bv_lt (digs_take ha i)
  rw [List.length_take, Nat.min_eq_left hia] at h1
  have h2 : bv (a.drop i) + 1 ≤ bv (b.drop i) := by rw [bv_drop a, bv_drop b]; omega
  have h3 := Nat.mul_le_mul_left (65536 ^ i) h2
  rw [Nat.mul_add] at h3
  omega

theorem Cmp_ok {a b : List Dg} {m n : Nat} (ha : IsB a m) (hb : IsB b n) (hal : a.length ≤ 1000000) (hbl : b.length ≤ 1000000) : pontageref1_Cmp ((a, b, ()), ()) = some ((cmpN m n, ()), ()) := by
  have hol : (I.ofNat .i64 (lenL a)).val = a.length := ofNat_i64 (by show a.length < _; omega)
  have hol2 : (I.ofNat .i64 (lenL b)).val = b.length := ofNat_i64 (by show b.length < _; omega)
  have c0 : (I.of .i64 0).val = 0 := rfl
  have c1 : (I.of .i64 1).val = 1 := rfl
  have key : Wp (fun o => o = some ((cmpN m n, ()), ())) (pontageref1_Cmp ((a, b, ()), ())) := by
    unfold pontageref1_Cmp
    refine Wp.brn (fun h => ?_) (fun h => ?_)
    · have h := iff_neb.1 h
      simp only [hol, hol2] at h
      refine Wp.brn (fun h2 => ?_) (fun h2 => ?_)
      · have h2 := iff_ltb.1 h2
        simp only [hol, hol2] at h2
        have h3 : m < n := by
          rcases Nat.lt_or_ge m n with h3 | h3
          · exact h3
          · have := hb.len.2 (Nat.lt_of_le_of_lt h3 (ha.len.1 (Nat.le_refl _)))
            omega
        show _ = _
        unfold cmpN
        rw [if_pos h3]
        rfl
      · have h2 := niff_ltb.1 h2
        simp only [hol, hol2] at h2
        have h3 : n < m := by
          rcases Nat.lt_or_ge n m with h3 | h3
          · exact h3
          · have := ha.len.2 (Nat.lt_of_le_of_lt h3 (hb.len.1 (Nat.le_refl _)))
            omega
        show _ = _
        unfold cmpN
        rw [if_neg (by omega), if_pos h3]
        rfl
    · have h := niff_neb.1 h
      simp only [hol, hol2] at h
      have hs : (I.sub (I.ofNat .i64 (lenL a)) (I.of .i64 1)).val = a.length - 1 := by rw [sub_i64 (by omega)]; omega
      refine Wp.iter (fun x => x.1.1 = a ∧ x.1.2.1 = b ∧ -1 ≤ x.1.2.2.1.val ∧ x.1.2.2.1.val < (a.length : Int) ∧ bv (a.drop (x.1.2.2.1.val + 1).toNat) = bv (b.drop (x.1.2.2.1.val + 1).toNat)) (fun x => (x.1.2.2.1.val + 1).toNat) ?_ ?_ ?_
      · rintro ⟨⟨a', b', i, ⟨⟩⟩, ⟨⟩⟩ ⟨e1, e2, hi0, hi1, hd⟩
        simp only at e1 e2 hi0 hi1 hd
        subst e1 e2
        refine Wp.brn (fun h2 => ?_) (fun h2 => ?_)
        · have h2 := iff_leb.1 h2
          simp only [c0] at h2
          have ha1 : inB i (lenL a') = true := iff_inB.2 ⟨h2, by show i.val < ((a'.length : Nat) : Int); omega⟩
          have hb1 : inB i (lenL b') = true := iff_inB.2 ⟨h2, by show i.val < ((b'.length : Nat) : Int); omega⟩
          have en : (i.val + 1).toNat = i.val.toNat + 1 := by omega
          rw [en] at hd
          have na := (rd0_ok ha.dig i.val.toNat).nat
          have nb := (rd0_ok hb.dig i.val.toNat).nat
          refine Wp.brnT ha1 (Wp.brnT hb1 ?_)
          refine Wp.brn (fun h3 => ?_) (fun h3 => ?_)
          · have h3 := iff_ltb.1 h3
            have h3 : (rd0 a' i.val.toNat).val < (rd0 b' i.val.toNat).val := h3
            have := cmp_at ha.dig hb.dig i.val.toNat hd (by omega) (by omega) (by omega)
            rw [ha.val, hb.val] at this
            refine Wp.done ?_
            show _ = _
            unfold cmpN
            rw [if_pos this]
            rfl
          · have h3 := niff_ltb.1 h3
            have h3 : (rd0 b' i.val.toNat).val ≤ (rd0 a' i.val.toNat).val := h3
            refine Wp.brnT ha1 (Wp.brnT hb1 ?_)
            refine Wp.brn (fun h4 => ?_) (fun h4 => ?_)
            · have h4 := iff_ltb.1 h4
              have h4 : (rd0 b' i.val.toNat).val < (rd0 a' i.val.toNat).val := h4
              have := cmp_at hb.dig ha.dig i.val.toNat hd.symm (by omega) (by omega) (by omega)
              rw [ha.val, hb.val] at this
              refine Wp.done ?_
              show _ = _
              unfold cmpN
              rw [if_neg (by omega), if_pos this]
              rfl
            · have h4 := niff_ltb.1 h4
              have h4 : (rd0 a' i.val.toNat).val ≤ (rd0 b' i.val.toNat).val := h4
              have hsi : (I.sub i (I.of .i64 1)).val = i.val - 1 := by rw [sub_i64 (by omega)]; omega
              refine Wp.again ⟨rfl, rfl, ?_, ?_, ?_⟩ ?_
              · show -1 ≤ (I.sub i (I.of .i64 1)).val; omega
              · show (I.sub i (I.of .i64 1)).val < _; omega
              · show bv (a'.drop ((I.sub i (I.of .i64 1)).val + 1).toNat) = bv (b'.drop ((I.sub i (I.of .i64 1)).val + 1).toNat)
                have e : ((I.sub i (I.of .i64 1)).val + 1).toNat = i.val.toNat := by omega
                rw [e, bv_drop a', bv_drop b', hd]
                omega
              · show ((I.sub i (I.of .i64 1)).val + 1).toNat < _
                simp only; omega
        · have h2 := niff_leb.1 h2
          simp only [c0] at h2
          have e : (i.val + 1).toNat = 0 := by omega
          rw [e] at hd
          simp only [List.drop_zero] at hd
          rw [ha.val, hb.val] at hd
          refine Wp.done ?_
          show _ = _
          unfold cmpN
          rw [if_neg (by omega), if_neg (by omega)]
          rfl
      · refine ⟨rfl, rfl, ?_, ?_, ?_⟩
        · show -1 ≤ (I.sub (I.ofNat .i64 (lenL a)) (I.of .i64 1)).val; omega
        · show (I.sub (I.ofNat .i64 (lenL a)) (I.of .i64 1)).val < _; omega
        · show bv (a.drop ((I.sub (I.ofNat .i64 (lenL a)) (I.of .i64 1)).val + 1).toNat) = bv (b.drop ((I.sub (I.ofNat .i64 (lenL a)) (I.of .i64 1)).val + 1).toNat)
          have e : ((I.sub (I.ofNat .i64 (lenL a)) (I.of .i64 1)).val + 1).toNat = a.length := by omega
          rw [e, List.drop_of_length_le (Nat.le_refl _), List.drop_of_length_le (by omega)]
      · exact K0_ge _ (by show ((I.sub (I.ofNat .i64 (lenL a)) (I.of .i64 1)).val + 1).toNat < _; omega)
  exact key.out
end Sym

/- Limbs of 256 bits; products of 64 bits. -/
namespace Sym
open Go

abbrev W64 : Nat := 18446744073709551616

/-- The i-th limb. -/
def limb' (a : U) (i : Nat) : Nat := (Arr.sel (I.of .u64 0) 4 a i).nat

theorem limb_lt (a : U) (i : Nat) : limb' a i < W64 := nat_lt _

theorem limb_mod (a : U) (i : Nat) (h : i < 4) : a.val % W64 ^ (i + 1) = a.val % W64 ^ i + W64 ^ i * limb' a i := by
  obtain ⟨a0, a1, a2, a3, ⟨⟩⟩ := a
  have n0 := nat_lt a0
  have n1 := nat_lt a1
  have n2 := nat_lt a2
  have n3 := nat_lt a3
  have p0 : W64 ^ 0 = 1 := by decide
  have p1 : W64 ^ 1 = 18446744073709551616 := by decide
  have p2 : W64 ^ 2 = 340282366920938463463374607431768211456 := by decide
  have p3 : W64 ^ 3 = 6277101735386680763835789423207666416102355444464034512896 := by decide
  have p4 : W64 ^ 4 = 115792089237316195423570985008687907853269984665640564039457584007913129639936 := by decide
  have hc : i = 0 ∨ i = 1 ∨ i = 2 ∨ i = 3 := by omega
  rcases hc with rfl | rfl | rfl | rfl
  · show U.val _ % W64 ^ 1 = U.val _ % W64 ^ 0 + W64 ^ 0 * a0.nat
    rw [p0, p1]; unfold U.val; simp only; omega
  · show U.val _ % W64 ^ 2 = U.val _ % W64 ^ 1 + W64 ^ 1 * a1.nat
    rw [p1, p2]; unfold U.val; simp only; omega
  · show U.val _ % W64 ^ 3 = U.val _ % W64 ^ 2 + W64 ^ 2 * a2.nat
    rw [p2, p3]; unfold U.val; simp only; omega
  · show U.val _ % W64 ^ 4 = U.val _ % W64 ^ 3 + W64 ^ 3 * a3.nat
    rw [p3, p4]; unfold U.val; simp only; omega

theorem upd_val (a : U) (i : Nat) (z : I .u64) (h : i < 4) : U.val (Arr.upd 4 a i z) + W64 ^ i * limb' a i = a.val + W64 ^ i * z.nat := by
  obtain ⟨a0, a1, a2, a3, ⟨⟩⟩ := a
  have p0 : W64 ^ 0 = 1 := by decide
  have p1 : W64 ^ 1 = 18446744073709551616 := by decide
  have p2 : W64 ^ 2 = 340282366920938463463374607431768211456 := by decide
  have p3 : W64 ^ 3 = 6277101735386680763835789423207666416102355444464034512896 := by decide
  have hc : i = 0 ∨ i = 1 ∨ i = 2 ∨ i = 3 := by omega
  rcases hc with rfl | rfl | rfl | rfl
  · show U.val (z, a1, a2, a3, ()) + W64 ^ 0 * a0.nat = U.val (a0, a1, a2, a3, ()) + W64 ^ 0 * z.nat
    rw [p0]; unfold U.val; simp only; omega
  · show U.val (a0, z, a2, a3, ()) + W64 ^ 1 * a1.nat = U.val (a0, a1, a2, a3, ()) + W64 ^ 1 * z.nat
    rw [p1]; unfold U.val; simp only; omega
  · show U.val (a0, a1, z, a3, ()) + W64 ^ 2 * a2.nat = U.val (a0, a1, a2, a3, ()) + W64 ^ 2 * z.nat
    rw [p2]; unfold U.val; simp only; omega
  · show U.val (a0, a1, a2, z, ()) + W64 ^ 3 * a3.nat = U.val (a0, a1, a2, a3, ()) + W64 ^ 3 * z.nat
    rw [p3]; unfold U.val; simp only; omega

theorem and_low (x : I .u64) (n : Nat) (m : I .u64) (hn : n < 64) (hm : m.val = ((2 ^ n - 1 : Nat) : Int)) : (I.and x m).nat = x.nat % 2 ^ n := by
  have hx := u64_range x
  have h1 : (BitVec.ofInt 64 x.val).toNat = x.nat := by rw [BitVec.toNat_ofInt]; unfold I.nat; omega
  have hp : 2 ^ n ≤ 2 ^ 63 := Nat.pow_le_pow_right (by decide) (by omega)
  have h2 : (BitVec.ofInt 64 m.val).toNat = 2 ^ n - 1 := by rw [BitVec.toNat_ofInt, hm]; omega
  have h3 : (BitVec.ofInt IntKind.u64.bits x.val &&& BitVec.ofInt IntKind.u64.bits m.val).toNat = x.nat % 2 ^ n := by
    show (BitVec.ofInt 64 x.val &&& BitVec.ofInt 64 m.val).toNat = _
    rw [BitVec.toNat_and, h1, h2, Nat.and_two_pow_sub_one_eq_mod]
  unfold I.and
  rw [h3]
  have h4 : x.nat % 2 ^ n < 2 ^ n := Nat.mod_lt _ (Nat.pow_pos (by decide))
  exact of_nat (by omega)

theorem shr_nat (x s : I .u64) (hs : s.nat < 64) : (I.shr x s).nat = x.nat / 2 ^ s.nat := by
  have h0 := u64_range s
  have hx := u64_range x
  have h := shr_u64 x s (by unfold I.nat at hs; omega)
  have e : s.val.toNat = s.nat := rfl
  rw [e] at h
  have h1 : ((x.nat / 2 ^ s.nat : Nat) : Int) = x.val / (2 : Int) ^ s.nat := by
    rw [Int.natCast_ediv, nat_val]
    simp
  have := nat_val (I.shr x s)
  omega

theorem mul_nat (a b : I .u64) : (I.mul a b).nat = a.nat * b.nat % W64 := by
  have h1 := nat_val a
  have h2 := nat_val b
  unfold I.mul
  have : a.val * b.val = ((a.nat * b.nat : Nat) : Int) := by rw [← h1, ← h2, Int.natCast_mul]
  rw [this]
  show (IntKind.u64.wrap _).toNat = _ % 18446744073709551616
  rw [wrap_u64]
  omega
theorem add_nat (a b : I .u64) : (I.add a b).nat = (a.nat + b.nat) % W64 := by
  have h1 := nat_val a
  have h2 := nat_val b
  show (IntKind.u64.wrap (a.val + b.val)).toNat = _ % 18446744073709551616
  rw [wrap_u64]
  omega

theorem Mul64_ok (a b : I .u64) : ∃ hi lo : I .u64, math_bits_Mul64 ((a, b, ()), ()) = some ((hi, lo, ()), ()) ∧ lo.nat + W64 * hi.nat = a.nat * b.nat := by
  refine ⟨_, _, rfl, ?_⟩
  show (I.mul a b).nat + W64 * (I.add (I.add (I.mul (I.shr a (I.of .u64 32)) (I.shr b (I.of .u64 32))) (I.shr (I.add (I.mul (I.shr a (I.of .u64 32)) (I.and b (I.of .u64 4294967295))) (I.shr (I.mul (I.and a (I.of .u64 4294967295)) (I.and b (I.of .u64 4294967295))) (I.of .u64 32))) (I.of .u64 32)))
    (I.shr (I.add (I.and (I.add (I.mul (I.shr a (I.of .u64 32)) (I.and b (I.of .u64 4294967295))) (I.shr (I.mul (I.and a (I.of .u64 4294967295)) (I.and b (I.of .u64 4294967295))) (I.of .u64 32))) (I.of .u64 4294967295)) (I.mul (I.and a (I.of .u64 4294967295)) (I.shr b (I.of .u64 32)))) (I.of .u64 32))).nat = _
  have c32 : (I.of .u64 32).nat = 32 := rfl
  have p32 : 2 ^ 32 = 4294967296 := by decide
  have sh : ∀ x : I .u64, (I.shr x (I.of .u64 32)).nat = x.nat / 4294967296 := fun x => by rw [shr_nat _ _ (by decide), c32, p32]
  have an : ∀ x : I .u64, (I.and x (I.of .u64 4294967295)).nat = x.nat % 4294967296 := fun x => by rw [and_low x 32 _ (by decide) (by decide), p32]
  simp only [mul_nat, add_nat, sh, an]
  have ha := nat_lt a
  have hb := nat_lt b
  have ea : a.nat = 4294967296 * (a.nat / 4294967296) + a.nat % 4294967296 := by omega
  have eb : b.nat = 4294967296 * (b.nat / 4294967296) + b.nat % 4294967296 := by omega
  generalize hA1 : a.nat / 4294967296 = a1 at *
  generalize hA0 : a.nat % 4294967296 = a0 at *
  generalize hB1 : b.nat / 4294967296 = b1 at *
  generalize hB0 : b.nat % 4294967296 = b0 at *
  have la1 : a1 ≤ 4294967295 := by omega
  have la0 : a0 ≤ 4294967295 := by omega
  have lb1 : b1 ≤ 4294967295 := by omega
  have lb0 : b0 ≤ 4294967295 := by omega
  have m11 : a1 * b1 ≤ 4294967295 * 4294967295 := Nat.mul_le_mul la1 lb1
  have m10 : a1 * b0 ≤ 4294967295 * 4294967295 := Nat.mul_le_mul la1 lb0
  have m01 : a0 * b1 ≤ 4294967295 * 4294967295 := Nat.mul_le_mul la0 lb1
  have m00 : a0 * b0 ≤ 4294967295 * 4294967295 := Nat.mul_le_mul la0 lb0
  have prod : a.nat * b.nat = 18446744073709551616 * (a1 * b1) + 4294967296 * (a1 * b0) + 4294967296 * (a0 * b1) + a0 * b0 := by
    rw [ea, eb, Nat.add_mul, Nat.mul_add, Nat.mul_add]
    have e1 : 4294967296 * a1 * (4294967296 * b1) = 18446744073709551616 * (a1 * b1) := by
      rw [Nat.mul_mul_mul_comm]
    have e2 : 4294967296 * a1 * b0 = 4294967296 * (a1 * b0) := Nat.mul_assoc _ _ _
    have e3 : a0 * (4294967296 * b1) = 4294967296 * (a0 * b1) := Nat.mul_left_comm _ _ _
    rw [e1, e2, e3]
    omega
  rw [prod]
  generalize a1 * b1 = p11 at *
  generalize a1 * b0 = p10 at *
  generalize a0 * b1 = p01 at *
  generalize a0 * b0 = p00 at *
  clear ea eb prod ha hb hA1 hA0 hB1 hB0
  unfold W64
  omega
end Sym
