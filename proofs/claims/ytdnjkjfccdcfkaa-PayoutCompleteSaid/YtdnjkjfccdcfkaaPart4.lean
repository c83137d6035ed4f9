/- The given functions as plain functions, as the printer told them. -/
import Derived.Test.YtdnjkjfccdcfkaaPart3
namespace Sym
open Go

/-- pontage/pontageref1.norm -/
noncomputable def pontageref1_norm (x : (⟨[.pl (.sl (.int .i64))], []⟩ : Tm).D) : Option (⟨[.pl (.sl (.int .i64))], []⟩ : Tm).D :=
 let a : List (I .i64) := x.1.1
 iter (none) (fun x0 =>
   brn (@I.ltb .i64 (I.of .i64 0) x0.1.2.1)
    (brn (@inB .i64 (@I.sub .i64 x0.1.2.1 (I.of .i64 1)) (@lenL (I .i64) x0.1.1))
     (brn (@I.eqb .i64 (@rdL (I .i64) (I.of .i64 0) x0.1.1 (@I.nat .i64 (@I.sub .i64 x0.1.2.1 (I.of .i64 1)))) (I.of .i64 0))
      (.again ((x0.1.1, ((@I.sub .i64 x0.1.2.1 (I.of .i64 1)), ())), ()))
      (.done (brn (@inB' .i64 x0.1.2.1 (@lenL (I .i64) x0.1.1))
       (some (((@subL (I .i64) x0.1.1 0 (@I.nat .i64 x0.1.2.1)), ()), ()))
       (none))))
     (.done (none)))
    (.done (brn (@inB' .i64 x0.1.2.1 (@lenL (I .i64) x0.1.1))
     (some (((@subL (I .i64) x0.1.1 0 (@I.nat .i64 x0.1.2.1)), ()), ()))
     (none))))
 K0 ((a, ((I.ofNat .i64 (@lenL (I .i64) a)), ())), ())

/-- pontage/pontageref1.Cmp -/
noncomputable def pontageref1_Cmp (x : (⟨[.pl (.sl (.int .i64)), .pl (.sl (.int .i64))], []⟩ : Tm).D) : Option (⟨[.pl (.int .i64)], []⟩ : Tm).D :=
 let a : List (I .i64) := x.1.1
 let b : List (I .i64) := x.1.2.1
 brn (@I.neb .i64 (I.ofNat .i64 (@lenL (I .i64) a)) (I.ofNat .i64 (@lenL (I .i64) b)))
  (brn (@I.ltb .i64 (I.ofNat .i64 (@lenL (I .i64) a)) (I.ofNat .i64 (@lenL (I .i64) b)))
   (some (((I.of .i64 (-1)), ()), ()))
   (some (((I.of .i64 1), ()), ())))
  (iter (none) (fun x0 =>
    brn (@I.leb .i64 (I.of .i64 0) x0.1.2.2.1)
     (brn (@inB .i64 x0.1.2.2.1 (@lenL (I .i64) x0.1.1))
      (brn (@inB .i64 x0.1.2.2.1 (@lenL (I .i64) x0.1.2.1))
       (brn (@I.ltb .i64 (@rdL (I .i64) (I.of .i64 0) x0.1.1 (@I.nat .i64 x0.1.2.2.1)) (@rdL (I .i64) (I.of .i64 0) x0.1.2.1 (@I.nat .i64 x0.1.2.2.1)))
        (.done (some (((I.of .i64 (-1)), ()), ())))
        (brn (@inB .i64 x0.1.2.2.1 (@lenL (I .i64) x0.1.1))
         (brn (@inB .i64 x0.1.2.2.1 (@lenL (I .i64) x0.1.2.1))
          (brn (@I.ltb .i64 (@rdL (I .i64) (I.of .i64 0) x0.1.2.1 (@I.nat .i64 x0.1.2.2.1)) (@rdL (I .i64) (I.of .i64 0) x0.1.1 (@I.nat .i64 x0.1.2.2.1)))
           (.done (some (((I.of .i64 1), ()), ())))
           (.again ((x0.1.1, (x0.1.2.1, ((@I.sub .i64 x0.1.2.2.1 (I.of .i64 1)), ()))), ())))
          (.done (none)))
         (.done (none))))
       (.done (none)))
      (.done (none)))
     (.done (some (((I.of .i64 0), ()), ()))))
  K0 ((a, (b, ((@I.sub .i64 (I.ofNat .i64 (@lenL (I .i64) a)) (I.of .i64 1)), ()))), ()))

/-- pontage/pontageref1.Sub -/
noncomputable def pontageref1_Sub (x : (⟨[.pl (.sl (.int .i64)), .pl (.sl (.int .i64))], []⟩ : Tm).D) : Option (⟨[.pl (.sl (.int .i64))], []⟩ : Tm).D :=
 let a : List (I .i64) := x.1.1
 let b : List (I .i64) := x.1.2.1
 brn (@inB' .i64 (I.ofNat .i64 (@lenL (I .i64) a)) (@I.nat .i64 (I.ofNat .i64 (@lenL (I .i64) a))))
  (brn (@inB' .i64 (I.ofNat .i64 (@lenL (I .i64) a)) 1073741824)
   (iter (none) (fun x0 =>
     brn (@I.ltb .i64 x0.1.2.2.2.1 (I.ofNat .i64 (@lenL (I .i64) x0.1.1)))
      (brn (@inB .i64 x0.1.2.2.2.1 (@lenL (I .i64) x0.1.1))
       (jn (fun (x1 : (((List (I .i64)) × ((List (I .i64)) × ((I .i64) × ((I .i64) × Unit)))) × ((List (I .i64)) × Unit))) =>
         brn (@I.ltb .i64 x1.1.2.2.2.1 (I.of .i64 0))
          (brn (@inB .i64 x1.1.2.2.1 (@lenL (I .i64) x1.2.1))
           (.again ((x1.1.1, (x1.1.2.1, ((I.of .i64 1), ((@I.add .i64 x1.1.2.2.1 (I.of .i64 1)), ())))), ((@setL (I .i64) x1.2.1 (@I.nat .i64 x1.1.2.2.1) (@I.add .i64 x1.1.2.2.2.1 (I.of .i64 65536))), ())))
           (.done (none)))
          (brn (@inB .i64 x1.1.2.2.1 (@lenL (I .i64) x1.2.1))
           (.again ((x1.1.1, (x1.1.2.1, ((I.of .i64 0), ((@I.add .i64 x1.1.2.2.1 (I.of .i64 1)), ())))), ((@setL (I .i64) x1.2.1 (@I.nat .i64 x1.1.2.2.1) x1.1.2.2.2.1), ())))
           (.done (none)))) fun j1 =>
       brn (@I.ltb .i64 x0.1.2.2.2.1 (I.ofNat .i64 (@lenL (I .i64) x0.1.2.1)))
        (brn (@inB .i64 x0.1.2.2.2.1 (@lenL (I .i64) x0.1.2.1))
         (j1 ((x0.1.1, (x0.1.2.1, (x0.1.2.2.2.1, ((@I.sub .i64 (@I.sub .i64 (@rdL (I .i64) (I.of .i64 0) x0.1.1 (@I.nat .i64 x0.1.2.2.2.1)) x0.1.2.2.1) (@rdL (I .i64) (I.of .i64 0) x0.1.2.1 (@I.nat .i64 x0.1.2.2.2.1))), ())))), (x0.2.1, ())))
         (.done (none)))
        (j1 ((x0.1.1, (x0.1.2.1, (x0.1.2.2.2.1, ((@I.sub .i64 (@rdL (I .i64) (I.of .i64 0) x0.1.1 (@I.nat .i64 x0.1.2.2.2.1)) x0.1.2.2.1), ())))), (x0.2.1, ()))))
       (.done (none)))
      (.done (iter (none) (fun x1 =>
        brn (@I.ltb .i64 (I.of .i64 0) x1.1.1)
         (brn (@inB .i64 (@I.sub .i64 x1.1.1 (I.of .i64 1)) (@lenL (I .i64) x1.2.1))
          (brn (@I.eqb .i64 (@rdL (I .i64) (I.of .i64 0) x1.2.1 (@I.nat .i64 (@I.sub .i64 x1.1.1 (I.of .i64 1)))) (I.of .i64 0))
           (.again (((@I.sub .i64 x1.1.1 (I.of .i64 1)), ()), (x1.2.1, ())))
           (.done (brn (@inB' .i64 x1.1.1 (@lenL (I .i64) x1.2.1))
            (some (((@subL (I .i64) x1.2.1 0 (@I.nat .i64 x1.1.1)), ()), ()))
            (none))))
          (.done (none)))
         (.done (brn (@inB' .i64 x1.1.1 (@lenL (I .i64) x1.2.1))
          (some (((@subL (I .i64) x1.2.1 0 (@I.nat .i64 x1.1.1)), ()), ()))
          (none))))
      K0 (((I.ofNat .i64 (@lenL (I .i64) x0.2.1)), ()), (x0.2.1, ())))))
   K0 ((a, (b, ((I.of .i64 0), ((I.of .i64 0), ())))), ((@repD (I .i64) (@I.nat .i64 (I.ofNat .i64 (@lenL (I .i64) a))) (I.of .i64 0)), ())))
   (none))
  (none)

/-- pontage/pontageref1.short -/
noncomputable def pontageref1_short (x : (⟨[.pl (.sl (.int .i64)), .pl (.int .i64)], []⟩ : Tm).D) : Option (⟨[.pl (.sl (.int .i64)), .pl (.sl (.int .i64))], []⟩ : Tm).D :=
 let a : List (I .i64) := x.1.1
 let b : I .i64 := x.1.2.1
 brn (@inB' .i64 (I.ofNat .i64 (@lenL (I .i64) a)) (@I.nat .i64 (I.ofNat .i64 (@lenL (I .i64) a))))
  (brn (@inB' .i64 (I.ofNat .i64 (@lenL (I .i64) a)) 1073741824)
   (iter (none) (fun x0 =>
     brn (@I.leb .i64 (I.of .i64 0) x0.1.2.2.2.1)
      (brn (@inB .i64 x0.1.2.2.2.1 (@lenL (I .i64) x0.1.1))
       (brn (@I.nz .i64 x0.1.2.1)
        (brn (@I.nz .i64 x0.1.2.1)
         (brn (@inB .i64 x0.1.2.2.2.1 (@lenL (I .i64) x0.2.1))
          (.again ((x0.1.1, (x0.1.2.1, ((@I.rem .i64 (@I.add .i64 (@I.mul .i64 (I.of .i64 65536) x0.1.2.2.1) (@rdL (I .i64) (I.of .i64 0) x0.1.1 (@I.nat .i64 x0.1.2.2.2.1))) x0.1.2.1), ((@I.sub .i64 x0.1.2.2.2.1 (I.of .i64 1)), ())))), ((@setL (I .i64) x0.2.1 (@I.nat .i64 x0.1.2.2.2.1) (@I.quo .i64 (@I.add .i64 (@I.mul .i64 (I.of .i64 65536) x0.1.2.2.1) (@rdL (I .i64) (I.of .i64 0) x0.1.1 (@I.nat .i64 x0.1.2.2.2.1))) x0.1.2.1)), ())))
          (.done (none)))
         (.done (none)))
        (.done (none)))
       (.done (none)))
      (.done (optF (none) (pontageref1_norm ((x0.2.1, ()), ())) fun y1 =>
      optF (none) (pontageref1_norm (((x0.1.2.2.1 :: []), ()), ())) fun y2 =>
      some ((y1.1.1, (y2.1.1, ())), ()))))
   K0 ((a, (b, ((I.of .i64 0), ((@I.sub .i64 (I.ofNat .i64 (@lenL (I .i64) a)) (I.of .i64 1)), ())))), ((@repD (I .i64) (@I.nat .i64 (I.ofNat .i64 (@lenL (I .i64) a))) (I.of .i64 0)), ())))
   (none))
  (none)

/-- pontage/pontageref1.Div -/
noncomputable def pontageref1_Div (x : (⟨[.pl (.sl (.int .i64)), .pl (.sl (.int .i64))], []⟩ : Tm).D) : Option (⟨[.pl (.sl (.int .i64)), .pl (.sl (.int .i64))], []⟩ : Tm).D :=
 let a : List (I .i64) := x.1.1
 let b : List (I .i64) := x.1.2.1
 brn (@I.eqb .i64 (I.ofNat .i64 (@lenL (I .i64) b)) (I.of .i64 1))
  (brn (@inB .i64 (I.of .i64 0) (@lenL (I .i64) b))
   (optF (none) (pontageref1_short ((a, ((@rdL (I .i64) (I.of .i64 0) b 0), ())), ())) fun y0 =>
   some ((y0.1.1, (y0.1.2.1, ())), ()))
   (none))
  (brn (@inB' .i64 (I.ofNat .i64 (@lenL (I .i64) a)) (@I.nat .i64 (I.ofNat .i64 (@lenL (I .i64) a))))
   (brn (@inB' .i64 (I.ofNat .i64 (@lenL (I .i64) a)) 1073741824)
    (brn (@inB' .i64 (@I.add .i64 (I.ofNat .i64 (@lenL (I .i64) b)) (I.of .i64 1)) (@I.nat .i64 (@I.add .i64 (I.ofNat .i64 (@lenL (I .i64) b)) (I.of .i64 1))))
     (brn (@inB' .i64 (@I.add .i64 (I.ofNat .i64 (@lenL (I .i64) b)) (I.of .i64 1)) 1073741824)
      (iter (none) (fun x0 =>
        brn (@I.leb .i64 (I.of .i64 0) x0.1.2.2.1)
         (iter (.done (none)) (fun x1 =>
           brn (@I.leb .i64 (I.of .i64 0) x1.1.2.2.2.1)
            (brn (@inB .i64 x1.1.2.2.1 (@lenL (I .i64) x1.1.1))
             (brn (@I.nn .u64 (I.conv (k := .i64) .u64 x1.1.2.2.2.1))
              (iter (.done (.done (none))) (fun x2 =>
                brn (@I.ltb .i64 x2.1.2.2.2.2.2.1 (I.ofNat .i64 (@lenL (I .i64) x2.2.2.1)))
                 (brn (@inB .i64 x2.1.2.2.2.2.2.1 (@lenL (I .i64) x2.2.2.1))
                  (brn (@inB .i64 x2.1.2.2.2.2.2.1 (@lenL (I .i64) x2.2.2.1))
                   (.again ((x2.1.1, (x2.1.2.1, (x2.1.2.2.1, (x2.1.2.2.2.1, ((@I.shr .i64 .u64 (@I.add .i64 x2.1.2.2.2.2.1 (@I.mul .i64 (I.of .i64 2) (@rdL (I .i64) (I.of .i64 0) x2.2.2.1 (@I.nat .i64 x2.1.2.2.2.2.2.1)))) (I.of .u64 16)), ((@I.add .i64 x2.1.2.2.2.2.2.1 (I.of .i64 1)), ())))))), (x2.2.1, ((@setL (I .i64) x2.2.2.1 (@I.nat .i64 x2.1.2.2.2.2.2.1) (@I.and .i64 (@I.add .i64 x2.1.2.2.2.2.1 (@I.mul .i64 (I.of .i64 2) (@rdL (I .i64) (I.of .i64 0) x2.2.2.1 (@I.nat .i64 x2.1.2.2.2.2.2.1)))) (I.of .i64 65535))), ()))))
                   (.done (.done (.done (none)))))
                  (.done (.done (.done (none)))))
                 (.done (iter (.done (.done (none))) (fun x3 =>
                   brn (@I.ltb .i64 (I.of .i64 0) x3.1.1)
                    (brn (@inB .i64 (@I.sub .i64 x3.1.1 (I.of .i64 1)) (@lenL (I .i64) x3.2.1))
                     (brn (@I.eqb .i64 (@rdL (I .i64) (I.of .i64 0) x3.2.1 (@I.nat .i64 (@I.sub .i64 x3.1.1 (I.of .i64 1)))) (I.of .i64 0))
                      (.again (((@I.sub .i64 x3.1.1 (I.of .i64 1)), (x3.1.2.1, (x3.1.2.2.1, (x3.1.2.2.2.1, (x3.1.2.2.2.2.1, ()))))), (x3.2.1, (x3.2.2.1, ()))))
                      (.done (brn (@inB' .i64 x3.1.1 (@lenL (I .i64) x3.2.1))
                       (optF (.done (.done (none))) (pontageref1_Cmp (((@subL (I .i64) x3.2.1 0 (@I.nat .i64 x3.1.1)), (x3.1.2.2.1, ())), ())) fun y4 =>
                       brn (@I.leb .i64 (I.of .i64 0) y4.1.1)
                        (iter (.done (.done (none))) (fun x5 =>
                          brn (@I.ltb .i64 (I.of .i64 0) x5.1.1)
                           (brn (@inB .i64 (@I.sub .i64 x5.1.1 (I.of .i64 1)) (@lenL (I .i64) x5.2.1))
                            (brn (@I.eqb .i64 (@rdL (I .i64) (I.of .i64 0) x5.2.1 (@I.nat .i64 (@I.sub .i64 x5.1.1 (I.of .i64 1)))) (I.of .i64 0))
                             (.again (((@I.sub .i64 x5.1.1 (I.of .i64 1)), (x5.1.2.1, (x5.1.2.2.1, (x5.1.2.2.2.1, (x5.1.2.2.2.2.1, ()))))), (x5.2.1, (x5.2.2.1, ()))))
                             (.done (brn (@inB' .i64 x5.1.1 (@lenL (I .i64) x5.2.1))
                              (optF (.done (.done (none))) (pontageref1_Sub (((@subL (I .i64) x5.2.1 0 (@I.nat .i64 x5.1.1)), (x5.1.2.2.1, ())), ())) fun y6 =>
                              iter (.done (.done (none))) (fun x7 =>
                                brn (@I.ltb .i64 x7.1.2.2.2.2.2.1 (I.ofNat .i64 (@lenL (I .i64) x7.2.2.1)))
                                 (brn (@inB .i64 x7.1.2.2.2.2.2.1 (@lenL (I .i64) x7.2.2.1))
                                  (brn (@I.ltb .i64 x7.1.2.2.2.2.2.1 (I.ofNat .i64 (@lenL (I .i64) x7.1.2.2.2.2.1)))
                                   (brn (@inB .i64 x7.1.2.2.2.2.2.1 (@lenL (I .i64) x7.1.2.2.2.2.1))
                                    (brn (@inB .i64 x7.1.2.2.2.2.2.1 (@lenL (I .i64) (@setL (I .i64) x7.2.2.1 (@I.nat .i64 x7.1.2.2.2.2.2.1) (I.of .i64 0))))
                                     (.again ((x7.1.1, (x7.1.2.1, (x7.1.2.2.1, (x7.1.2.2.2.1, (x7.1.2.2.2.2.1, ((@I.add .i64 x7.1.2.2.2.2.2.1 (I.of .i64 1)), ())))))), (x7.2.1, ((@setL (I .i64) (@setL (I .i64) x7.2.2.1 (@I.nat .i64 x7.1.2.2.2.2.2.1) (I.of .i64 0)) (@I.nat .i64 x7.1.2.2.2.2.2.1) (@rdL (I .i64) (I.of .i64 0) x7.1.2.2.2.2.1 (@I.nat .i64 x7.1.2.2.2.2.2.1))), ()))))
                                     (.done (.done (.done (none)))))
                                    (.done (.done (.done (none)))))
                                   (.again ((x7.1.1, (x7.1.2.1, (x7.1.2.2.1, (x7.1.2.2.2.1, (x7.1.2.2.2.2.1, ((@I.add .i64 x7.1.2.2.2.2.2.1 (I.of .i64 1)), ())))))), (x7.2.1, ((@setL (I .i64) x7.2.2.1 (@I.nat .i64 x7.1.2.2.2.2.2.1) (I.of .i64 0)), ())))))
                                  (.done (.done (.done (none)))))
                                 (.done (brn (@inB .i64 x7.1.2.2.1 (@lenL (I .i64) x7.2.1))
                                  (brn (@I.nn .u64 (I.conv (k := .i64) .u64 x7.1.2.2.2.1))
                                   (brn (@inB .i64 x7.1.2.2.1 (@lenL (I .i64) x7.2.1))
                                    (.again ((x7.1.1, (x7.1.2.1, (x7.1.2.2.1, ((@I.sub .i64 x7.1.2.2.2.1 (I.of .i64 1)), ())))), ((@setL (I .i64) x7.2.1 (@I.nat .i64 x7.1.2.2.1) (@I.add .i64 (@rdL (I .i64) (I.of .i64 0) x7.2.1 (@I.nat .i64 x7.1.2.2.1)) (@I.shl .i64 .u64 (I.of .i64 1) (I.conv (k := .i64) .u64 x7.1.2.2.2.1)))), (x7.2.2.1, ()))))
                                    (.done (.done (none))))
                                   (.done (.done (none))))
                                  (.done (.done (none))))))
                              K0 ((x5.1.2.1, (x5.1.2.2.1, (x5.1.2.2.2.1, (x5.1.2.2.2.2.1, (y6.1.1, ((I.of .i64 0), ())))))), (x5.2.2.1, (x5.2.1, ()))))
                              (.done (.done (none))))))
                            (.done (.done (.done (none)))))
                           (.done (brn (@inB' .i64 x5.1.1 (@lenL (I .i64) x5.2.1))
                            (optF (.done (.done (none))) (pontageref1_Sub (((@subL (I .i64) x5.2.1 0 (@I.nat .i64 x5.1.1)), (x5.1.2.2.1, ())), ())) fun y6 =>
                            iter (.done (.done (none))) (fun x7 =>
                              brn (@I.ltb .i64 x7.1.2.2.2.2.2.1 (I.ofNat .i64 (@lenL (I .i64) x7.2.2.1)))
                               (brn (@inB .i64 x7.1.2.2.2.2.2.1 (@lenL (I .i64) x7.2.2.1))
                                (brn (@I.ltb .i64 x7.1.2.2.2.2.2.1 (I.ofNat .i64 (@lenL (I .i64) x7.1.2.2.2.2.1)))
                                 (brn (@inB .i64 x7.1.2.2.2.2.2.1 (@lenL (I .i64) x7.1.2.2.2.2.1))
                                  (brn (@inB .i64 x7.1.2.2.2.2.2.1 (@lenL (I .i64) (@setL (I .i64) x7.2.2.1 (@I.nat .i64 x7.1.2.2.2.2.2.1) (I.of .i64 0))))
                                   (.again ((x7.1.1, (x7.1.2.1, (x7.1.2.2.1, (x7.1.2.2.2.1, (x7.1.2.2.2.2.1, ((@I.add .i64 x7.1.2.2.2.2.2.1 (I.of .i64 1)), ())))))), (x7.2.1, ((@setL (I .i64) (@setL (I .i64) x7.2.2.1 (@I.nat .i64 x7.1.2.2.2.2.2.1) (I.of .i64 0)) (@I.nat .i64 x7.1.2.2.2.2.2.1) (@rdL (I .i64) (I.of .i64 0) x7.1.2.2.2.2.1 (@I.nat .i64 x7.1.2.2.2.2.2.1))), ()))))
                                   (.done (.done (.done (none)))))
                                  (.done (.done (.done (none)))))
                                 (.again ((x7.1.1, (x7.1.2.1, (x7.1.2.2.1, (x7.1.2.2.2.1, (x7.1.2.2.2.2.1, ((@I.add .i64 x7.1.2.2.2.2.2.1 (I.of .i64 1)), ())))))), (x7.2.1, ((@setL (I .i64) x7.2.2.1 (@I.nat .i64 x7.1.2.2.2.2.2.1) (I.of .i64 0)), ())))))
                                (.done (.done (.done (none)))))
                               (.done (brn (@inB .i64 x7.1.2.2.1 (@lenL (I .i64) x7.2.1))
                                (brn (@I.nn .u64 (I.conv (k := .i64) .u64 x7.1.2.2.2.1))
                                 (brn (@inB .i64 x7.1.2.2.1 (@lenL (I .i64) x7.2.1))
                                  (.again ((x7.1.1, (x7.1.2.1, (x7.1.2.2.1, ((@I.sub .i64 x7.1.2.2.2.1 (I.of .i64 1)), ())))), ((@setL (I .i64) x7.2.1 (@I.nat .i64 x7.1.2.2.1) (@I.add .i64 (@rdL (I .i64) (I.of .i64 0) x7.2.1 (@I.nat .i64 x7.1.2.2.1)) (@I.shl .i64 .u64 (I.of .i64 1) (I.conv (k := .i64) .u64 x7.1.2.2.2.1)))), (x7.2.2.1, ()))))
                                  (.done (.done (none))))
                                 (.done (.done (none))))
                                (.done (.done (none))))))
                            K0 ((x5.1.2.1, (x5.1.2.2.1, (x5.1.2.2.2.1, (x5.1.2.2.2.2.1, (y6.1.1, ((I.of .i64 0), ())))))), (x5.2.2.1, (x5.2.1, ()))))
                            (.done (.done (none))))))
                        K0 (((I.ofNat .i64 (@lenL (I .i64) x3.2.1)), (x3.1.2.1, (x3.1.2.2.1, (x3.1.2.2.2.1, (x3.1.2.2.2.2.1, ()))))), (x3.2.1, (x3.2.2.1, ()))))
                        (.again ((x3.1.2.1, (x3.1.2.2.1, (x3.1.2.2.2.1, ((@I.sub .i64 x3.1.2.2.2.2.1 (I.of .i64 1)), ())))), (x3.2.2.1, (x3.2.1, ())))))
                       (.done (.done (none))))))
                     (.done (.done (.done (none)))))
                    (.done (brn (@inB' .i64 x3.1.1 (@lenL (I .i64) x3.2.1))
                     (optF (.done (.done (none))) (pontageref1_Cmp (((@subL (I .i64) x3.2.1 0 (@I.nat .i64 x3.1.1)), (x3.1.2.2.1, ())), ())) fun y4 =>
                     brn (@I.leb .i64 (I.of .i64 0) y4.1.1)
                      (iter (.done (.done (none))) (fun x5 =>
                        brn (@I.ltb .i64 (I.of .i64 0) x5.1.1)
                         (brn (@inB .i64 (@I.sub .i64 x5.1.1 (I.of .i64 1)) (@lenL (I .i64) x5.2.1))
                          (brn (@I.eqb .i64 (@rdL (I .i64) (I.of .i64 0) x5.2.1 (@I.nat .i64 (@I.sub .i64 x5.1.1 (I.of .i64 1)))) (I.of .i64 0))
                           (.again (((@I.sub .i64 x5.1.1 (I.of .i64 1)), (x5.1.2.1, (x5.1.2.2.1, (x5.1.2.2.2.1, (x5.1.2.2.2.2.1, ()))))), (x5.2.1, (x5.2.2.1, ()))))
                           (.done (brn (@inB' .i64 x5.1.1 (@lenL (I .i64) x5.2.1))
                            (optF (.done (.done (none))) (pontageref1_Sub (((@subL (I .i64) x5.2.1 0 (@I.nat .i64 x5.1.1)), (x5.1.2.2.1, ())), ())) fun y6 =>
                            iter (.done (.done (none))) (fun x7 =>
                              brn (@I.ltb .i64 x7.1.2.2.2.2.2.1 (I.ofNat .i64 (@lenL (I .i64) x7.2.2.1)))
                               (brn (@inB .i64 x7.1.2.2.2.2.2.1 (@lenL (I .i64) x7.2.2.1))
                                (brn (@I.ltb .i64 x7.1.2.2.2.2.2.1 (I.ofNat .i64 (@lenL (I .i64) x7.1.2.2.2.2.1)))
                                 (brn (@inB .i64 x7.1.2.2.2.2.2.1 (@lenL (I .i64) x7.1.2.2.2.2.1))
                                  (brn (@inB .i64 x7.1.2.2.2.2.2.1 (@lenL (I .i64) (@setL (I .i64) x7.2.2.1 (@I.nat .i64 x7.1.2.2.2.2.2.1) (I.of .i64 0))))
                                   (.again ((x7.1.1, (x7.1.2.1, (x7.1.2.2.1, (x7.1.2.2.2.1, (x7.1.2.2.2.2.1, ((@I.add .i64 x7.1.2.2.2.2.2.1 (I.of .i64 1)), ())))))), (x7.2.1, ((@setL (I .i64) (@setL (I .i64) x7.2.2.1 (@I.nat .i64 x7.1.2.2.2.2.2.1) (I.of .i64 0)) (@I.nat .i64 x7.1.2.2.2.2.2.1) (@rdL (I .i64) (I.of .i64 0) x7.1.2.2.2.2.1 (@I.nat .i64 x7.1.2.2.2.2.2.1))), ()))))
                                   (.done (.done (.done (none)))))
                                  (.done (.done (.done (none)))))
                                 (.again ((x7.1.1, (x7.1.2.1, (x7.1.2.2.1, (x7.1.2.2.2.1, (x7.1.2.2.2.2.1, ((@I.add .i64 x7.1.2.2.2.2.2.1 (I.of .i64 1)), ())))))), (x7.2.1, ((@setL (I .i64) x7.2.2.1 (@I.nat .i64 x7.1.2.2.2.2.2.1) (I.of .i64 0)), ())))))
                                (.done (.done (.done (none)))))
                               (.done (brn (@inB .i64 x7.1.2.2.1 (@lenL (I .i64) x7.2.1))
                                (brn (@I.nn .u64 (I.conv (k := .i64) .u64 x7.1.2.2.2.1))
                                 (brn (@inB .i64 x7.1.2.2.1 (@lenL (I .i64) x7.2.1))
                                  (.again ((x7.1.1, (x7.1.2.1, (x7.1.2.2.1, ((@I.sub .i64 x7.1.2.2.2.1 (I.of .i64 1)), ())))), ((@setL (I .i64) x7.2.1 (@I.nat .i64 x7.1.2.2.1) (@I.add .i64 (@rdL (I .i64) (I.of .i64 0) x7.2.1 (@I.nat .i64 x7.1.2.2.1)) (@I.shl .i64 .u64 (I.of .i64 1) (I.conv (k := .i64) .u64 x7.1.2.2.2.1)))), (x7.2.2.1, ()))))
                                  (.done (.done (none))))
                                 (.done (.done (none))))
                                (.done (.done (none))))))
                            K0 ((x5.1.2.1, (x5.1.2.2.1, (x5.1.2.2.2.1, (x5.1.2.2.2.2.1, (y6.1.1, ((I.of .i64 0), ())))))), (x5.2.2.1, (x5.2.1, ()))))
                            (.done (.done (none))))))
                          (.done (.done (.done (none)))))
                         (.done (brn (@inB' .i64 x5.1.1 (@lenL (I .i64) x5.2.1))
                          (optF (.done (.done (none))) (pontageref1_Sub (((@subL (I .i64) x5.2.1 0 (@I.nat .i64 x5.1.1)), (x5.1.2.2.1, ())), ())) fun y6 =>
                          iter (.done (.done (none))) (fun x7 =>
                            brn (@I.ltb .i64 x7.1.2.2.2.2.2.1 (I.ofNat .i64 (@lenL (I .i64) x7.2.2.1)))
                             (brn (@inB .i64 x7.1.2.2.2.2.2.1 (@lenL (I .i64) x7.2.2.1))
                              (brn (@I.ltb .i64 x7.1.2.2.2.2.2.1 (I.ofNat .i64 (@lenL (I .i64) x7.1.2.2.2.2.1)))
                               (brn (@inB .i64 x7.1.2.2.2.2.2.1 (@lenL (I .i64) x7.1.2.2.2.2.1))
                                (brn (@inB .i64 x7.1.2.2.2.2.2.1 (@lenL (I .i64) (@setL (I .i64) x7.2.2.1 (@I.nat .i64 x7.1.2.2.2.2.2.1) (I.of .i64 0))))
                                 (.again ((x7.1.1, (x7.1.2.1, (x7.1.2.2.1, (x7.1.2.2.2.1, (x7.1.2.2.2.2.1, ((@I.add .i64 x7.1.2.2.2.2.2.1 (I.of .i64 1)), ())))))), (x7.2.1, ((@setL (I .i64) (@setL (I .i64) x7.2.2.1 (@I.nat .i64 x7.1.2.2.2.2.2.1) (I.of .i64 0)) (@I.nat .i64 x7.1.2.2.2.2.2.1) (@rdL (I .i64) (I.of .i64 0) x7.1.2.2.2.2.1 (@I.nat .i64 x7.1.2.2.2.2.2.1))), ()))))
                                 (.done (.done (.done (none)))))
                                (.done (.done (.done (none)))))
                               (.again ((x7.1.1, (x7.1.2.1, (x7.1.2.2.1, (x7.1.2.2.2.1, (x7.1.2.2.2.2.1, ((@I.add .i64 x7.1.2.2.2.2.2.1 (I.of .i64 1)), ())))))), (x7.2.1, ((@setL (I .i64) x7.2.2.1 (@I.nat .i64 x7.1.2.2.2.2.2.1) (I.of .i64 0)), ())))))
                              (.done (.done (.done (none)))))
                             (.done (brn (@inB .i64 x7.1.2.2.1 (@lenL (I .i64) x7.2.1))
                              (brn (@I.nn .u64 (I.conv (k := .i64) .u64 x7.1.2.2.2.1))
                               (brn (@inB .i64 x7.1.2.2.1 (@lenL (I .i64) x7.2.1))
                                (.again ((x7.1.1, (x7.1.2.1, (x7.1.2.2.1, ((@I.sub .i64 x7.1.2.2.2.1 (I.of .i64 1)), ())))), ((@setL (I .i64) x7.2.1 (@I.nat .i64 x7.1.2.2.1) (@I.add .i64 (@rdL (I .i64) (I.of .i64 0) x7.2.1 (@I.nat .i64 x7.1.2.2.1)) (@I.shl .i64 .u64 (I.of .i64 1) (I.conv (k := .i64) .u64 x7.1.2.2.2.1)))), (x7.2.2.1, ()))))
                                (.done (.done (none))))
                               (.done (.done (none))))
                              (.done (.done (none))))))
                          K0 ((x5.1.2.1, (x5.1.2.2.1, (x5.1.2.2.2.1, (x5.1.2.2.2.2.1, (y6.1.1, ((I.of .i64 0), ())))))), (x5.2.2.1, (x5.2.1, ()))))
                          (.done (.done (none))))))
                      K0 (((I.ofNat .i64 (@lenL (I .i64) x3.2.1)), (x3.1.2.1, (x3.1.2.2.1, (x3.1.2.2.2.1, (x3.1.2.2.2.2.1, ()))))), (x3.2.1, (x3.2.2.1, ()))))
                      (.again ((x3.1.2.1, (x3.1.2.2.1, (x3.1.2.2.2.1, ((@I.sub .i64 x3.1.2.2.2.2.1 (I.of .i64 1)), ())))), (x3.2.2.1, (x3.2.1, ())))))
                     (.done (.done (none))))))
                 K0 (((I.ofNat .i64 (@lenL (I .i64) x2.2.2.1)), (x2.1.1, (x2.1.2.1, (x2.1.2.2.1, (x2.1.2.2.2.1, ()))))), (x2.2.2.1, (x2.2.1, ()))))))
              K0 ((x1.1.1, (x1.1.2.1, (x1.1.2.2.1, (x1.1.2.2.2.1, ((@I.and .i64 (@I.shr .i64 .u64 (@rdL (I .i64) (I.of .i64 0) x1.1.1 (@I.nat .i64 x1.1.2.2.1)) (I.conv (k := .i64) .u64 x1.1.2.2.2.1)) (I.of .i64 1)), ((I.of .i64 0), ())))))), (x1.2.1, (x1.2.2.1, ()))))
              (.done (.done (none))))
             (.done (.done (none))))
            (.done (.again ((x1.1.1, (x1.1.2.1, ((@I.sub .i64 x1.1.2.2.1 (I.of .i64 1)), ()))), (x1.2.1, (x1.2.2.1, ()))))))
         K0 ((x0.1.1, (x0.1.2.1, (x0.1.2.2.1, ((I.of .i64 15), ())))), (x0.2.1, (x0.2.2.1, ()))))
         (.done (iter (none) (fun x1 =>
           brn (@I.ltb .i64 (I.of .i64 0) x1.1.1)
            (brn (@inB .i64 (@I.sub .i64 x1.1.1 (I.of .i64 1)) (@lenL (I .i64) x1.2.1))
             (brn (@I.eqb .i64 (@rdL (I .i64) (I.of .i64 0) x1.2.1 (@I.nat .i64 (@I.sub .i64 x1.1.1 (I.of .i64 1)))) (I.of .i64 0))
              (.again (((@I.sub .i64 x1.1.1 (I.of .i64 1)), ()), (x1.2.1, (x1.2.2.1, ()))))
              (.done (brn (@inB' .i64 x1.1.1 (@lenL (I .i64) x1.2.1))
               (iter (none) (fun x2 =>
                 brn (@I.ltb .i64 (I.of .i64 0) x2.1.1)
                  (brn (@inB .i64 (@I.sub .i64 x2.1.1 (I.of .i64 1)) (@lenL (I .i64) x2.2.1))
                   (brn (@I.eqb .i64 (@rdL (I .i64) (I.of .i64 0) x2.2.1 (@I.nat .i64 (@I.sub .i64 x2.1.1 (I.of .i64 1)))) (I.of .i64 0))
                    (.again (((@I.sub .i64 x2.1.1 (I.of .i64 1)), (x2.1.2.1, ())), (x2.2.1, ())))
                    (.done (brn (@inB' .i64 x2.1.1 (@lenL (I .i64) x2.2.1))
                     (some ((x2.1.2.1, ((@subL (I .i64) x2.2.1 0 (@I.nat .i64 x2.1.1)), ())), ()))
                     (none))))
                   (.done (none)))
                  (.done (brn (@inB' .i64 x2.1.1 (@lenL (I .i64) x2.2.1))
                   (some ((x2.1.2.1, ((@subL (I .i64) x2.2.1 0 (@I.nat .i64 x2.1.1)), ())), ()))
                   (none))))
               K0 (((I.ofNat .i64 (@lenL (I .i64) x1.2.2.1)), ((@subL (I .i64) x1.2.1 0 (@I.nat .i64 x1.1.1)), ())), (x1.2.2.1, ())))
               (none))))
             (.done (none)))
            (.done (brn (@inB' .i64 x1.1.1 (@lenL (I .i64) x1.2.1))
             (iter (none) (fun x2 =>
               brn (@I.ltb .i64 (I.of .i64 0) x2.1.1)
                (brn (@inB .i64 (@I.sub .i64 x2.1.1 (I.of .i64 1)) (@lenL (I .i64) x2.2.1))
                 (brn (@I.eqb .i64 (@rdL (I .i64) (I.of .i64 0) x2.2.1 (@I.nat .i64 (@I.sub .i64 x2.1.1 (I.of .i64 1)))) (I.of .i64 0))
                  (.again (((@I.sub .i64 x2.1.1 (I.of .i64 1)), (x2.1.2.1, ())), (x2.2.1, ())))
                  (.done (brn (@inB' .i64 x2.1.1 (@lenL (I .i64) x2.2.1))
                   (some ((x2.1.2.1, ((@subL (I .i64) x2.2.1 0 (@I.nat .i64 x2.1.1)), ())), ()))
                   (none))))
                 (.done (none)))
                (.done (brn (@inB' .i64 x2.1.1 (@lenL (I .i64) x2.2.1))
                 (some ((x2.1.2.1, ((@subL (I .i64) x2.2.1 0 (@I.nat .i64 x2.1.1)), ())), ()))
                 (none))))
             K0 (((I.ofNat .i64 (@lenL (I .i64) x1.2.2.1)), ((@subL (I .i64) x1.2.1 0 (@I.nat .i64 x1.1.1)), ())), (x1.2.2.1, ())))
             (none))))
         K0 (((I.ofNat .i64 (@lenL (I .i64) x0.2.1)), ()), (x0.2.1, (x0.2.2.1, ()))))))
      K0 ((a, (b, ((@I.sub .i64 (I.ofNat .i64 (@lenL (I .i64) a)) (I.of .i64 1)), ()))), ((@repD (I .i64) (@I.nat .i64 (I.ofNat .i64 (@lenL (I .i64) a))) (I.of .i64 0)), ((@repD (I .i64) (@I.nat .i64 (@I.add .i64 (I.ofNat .i64 (@lenL (I .i64) b)) (I.of .i64 1))) (I.of .i64 0)), ()))))
      (none))
     (none))
    (none))
   (none))

/-- pontage/pontageref1.Add -/
noncomputable def pontageref1_Add (x : (⟨[.pl (.sl (.int .i64)), .pl (.sl (.int .i64))], []⟩ : Tm).D) : Option (⟨[.pl (.sl (.int .i64))], []⟩ : Tm).D :=
 let a : List (I .i64) := x.1.1
 let b : List (I .i64) := x.1.2.1
 iter (none) (fun x0 =>
   jn (fun (x1 : (((List (I .i64)) × ((List (I .i64)) × ((I .i64) × ((I .i64) × Unit)))) × ((List (I .i64)) × Unit))) =>
     jn (fun (x2 : (((List (I .i64)) × ((List (I .i64)) × ((I .i64) × ((I .i64) × Unit)))) × ((List (I .i64)) × Unit))) =>
       brn (@I.ltb .i64 x2.1.2.2.2.1 (I.ofNat .i64 (@lenL (I .i64) x2.1.2.1)))
        (brn (@inB .i64 x2.1.2.2.2.1 (@lenL (I .i64) x2.1.2.1))
         (brn (fitsLen (@lenL (I .i64) (@appL (I .i64) x2.2.1 ((@I.and .i64 (@I.add .i64 x2.1.2.2.1 (@rdL (I .i64) (I.of .i64 0) x2.1.2.1 (@I.nat .i64 x2.1.2.2.2.1))) (I.of .i64 65535)) :: []))))
          (.again ((x2.1.1, (x2.1.2.1, ((@I.shr .i64 .u64 (@I.add .i64 x2.1.2.2.1 (@rdL (I .i64) (I.of .i64 0) x2.1.2.1 (@I.nat .i64 x2.1.2.2.2.1))) (I.of .u64 16)), ((@I.add .i64 x2.1.2.2.2.1 (I.of .i64 1)), ())))), ((@appL (I .i64) x2.2.1 ((@I.and .i64 (@I.add .i64 x2.1.2.2.1 (@rdL (I .i64) (I.of .i64 0) x2.1.2.1 (@I.nat .i64 x2.1.2.2.2.1))) (I.of .i64 65535)) :: [])), ())))
          (.done (none)))
         (.done (none)))
        (brn (fitsLen (@lenL (I .i64) (@appL (I .i64) x2.2.1 ((@I.and .i64 x2.1.2.2.1 (I.of .i64 65535)) :: []))))
         (.again ((x2.1.1, (x2.1.2.1, ((@I.shr .i64 .u64 x2.1.2.2.1 (I.of .u64 16)), ((@I.add .i64 x2.1.2.2.2.1 (I.of .i64 1)), ())))), ((@appL (I .i64) x2.2.1 ((@I.and .i64 x2.1.2.2.1 (I.of .i64 65535)) :: [])), ())))
         (.done (none)))) fun j2 =>
     brn (@I.ltb .i64 x1.1.2.2.2.1 (I.ofNat .i64 (@lenL (I .i64) x1.1.1)))
      (brn (@inB .i64 x1.1.2.2.2.1 (@lenL (I .i64) x1.1.1))
       (j2 ((x1.1.1, (x1.1.2.1, ((@I.add .i64 x1.1.2.2.1 (@rdL (I .i64) (I.of .i64 0) x1.1.1 (@I.nat .i64 x1.1.2.2.2.1))), (x1.1.2.2.2.1, ())))), (x1.2.1, ())))
       (.done (none)))
      (j2 ((x1.1.1, (x1.1.2.1, (x1.1.2.2.1, (x1.1.2.2.2.1, ())))), (x1.2.1, ())))) fun j1 =>
   brn (@I.ltb .i64 x0.1.2.2.2.1 (I.ofNat .i64 (@lenL (I .i64) x0.1.1)))
    (j1 ((x0.1.1, (x0.1.2.1, (x0.1.2.2.1, (x0.1.2.2.2.1, ())))), (x0.2.1, ())))
    (brn (@I.ltb .i64 x0.1.2.2.2.1 (I.ofNat .i64 (@lenL (I .i64) x0.1.2.1)))
     (j1 ((x0.1.1, (x0.1.2.1, (x0.1.2.2.1, (x0.1.2.2.2.1, ())))), (x0.2.1, ())))
     (brn (@I.ltb .i64 (I.of .i64 0) x0.1.2.2.1)
      (j1 ((x0.1.1, (x0.1.2.1, (x0.1.2.2.1, (x0.1.2.2.2.1, ())))), (x0.2.1, ())))
      (.done (some ((x0.2.1, ()), ()))))))
 K0 ((a, (b, ((I.of .i64 0), ((I.of .i64 0), ())))), ([], ()))

/-- pontage/pontageref1.FromUint256 -/
noncomputable def pontageref1_FromUint256 (x : (⟨[.pl (.arr 4 (.int .u64))], []⟩ : Tm).D) : Option (⟨[.pl (.sl (.int .i64))], []⟩ : Tm).D :=
 let a : (I .u64) × (I .u64) × (I .u64) × (I .u64) × Unit := x.1.1
 iter (none) (fun x0 =>
   brn (@I.ltb .i64 x0.1.1 (I.of .i64 16))
    (brn (@inB .i64 (@I.quo .i64 x0.1.1 (I.of .i64 4)) 4)
     (brn (@I.nn .u64 (I.conv (k := .i64) .u64 (@I.mul .i64 (I.of .i64 16) (@I.rem .i64 x0.1.1 (I.of .i64 4)))))
      (brn (@inB .i64 x0.1.1 (@lenL (I .i64) x0.2.2.1))
       (.again (((@I.add .i64 x0.1.1 (I.of .i64 1)), ()), (x0.2.1, ((@setL (I .i64) x0.2.2.1 (@I.nat .i64 x0.1.1) (I.conv (k := .u64) .i64 (@I.and .u64 (@I.shr .u64 .u64 (@Arr.sel (I .u64) (I.of .u64 0) 4 x0.2.1 (@I.nat .i64 (@I.quo .i64 x0.1.1 (I.of .i64 4)))) (I.conv (k := .i64) .u64 (@I.mul .i64 (I.of .i64 16) (@I.rem .i64 x0.1.1 (I.of .i64 4))))) (I.of .u64 65535)))), ()))))
       (.done (none)))
      (.done (none)))
     (.done (none)))
    (.done (optF (none) (pontageref1_norm ((x0.2.2.1, ()), ())) fun y1 =>
    some ((y1.1.1, ()), ()))))
 K0 (((I.of .i64 0), ()), (a, ((@repD (I .i64) 16 (I.of .i64 0)), ())))

/-- pontage/pontageref1.FromUint64 -/
noncomputable def pontageref1_FromUint64 (x : (⟨[.pl (.int .u64)], []⟩ : Tm).D) : Option (⟨[.pl (.sl (.int .i64))], []⟩ : Tm).D :=
 let a : I .u64 := x.1.1
 optF (none) (pontageref1_FromUint256 (((a, ((I.of .u64 0), ((I.of .u64 0), ((I.of .u64 0), ())))), ()), ())) fun y0 =>
 some ((y0.1.1, ()), ())

/-- pontage/pontageref1.Fits -/
noncomputable def pontageref1_Fits (x : (⟨[.pl (.sl (.int .i64))], []⟩ : Tm).D) : Option (⟨[.pl .bool], []⟩ : Tm).D :=
 let a : List (I .i64) := x.1.1
 some (((@I.leb .i64 (I.ofNat .i64 (@lenL (I .i64) a)) (I.of .i64 16)), ()), ())

/-- pontage/pontageref1.ToUint256 -/
noncomputable def pontageref1_ToUint256 (x : (⟨[.pl (.sl (.int .i64))], []⟩ : Tm).D) : Option (⟨[.pl (.arr 4 (.int .u64))], []⟩ : Tm).D :=
 let a : List (I .i64) := x.1.1
 iter (none) (fun x0 =>
   jn (fun (x1 : (((List (I .i64)) × ((I .i64) × ((I .i64) × (Bool × Unit)))) × (((I .u64) × ((I .u64) × ((I .u64) × ((I .u64) × Unit)))) × (((I .u64) × ((I .u64) × ((I .u64) × ((I .u64) × Unit)))) × Unit)))) =>
     brn (@inB .i64 (@I.quo .i64 x1.1.2.1 (I.of .i64 4)) 4)
      (brn (@inB .i64 x1.1.2.1 (@lenL (I .i64) x1.1.1))
       (brn (@I.nn .u64 (I.conv (k := .i64) .u64 (@I.mul .i64 (I.of .i64 16) (@I.rem .i64 x1.1.2.1 (I.of .i64 4)))))
        (brn (@inB .i64 (@I.quo .i64 x1.1.2.1 (I.of .i64 4)) 4)
         (.again ((x1.1.1, ((@I.add .i64 x1.1.2.1 (I.of .i64 1)), ())), (x1.2.1, ((@Arr.upd (I .u64) 4 x1.2.2.1 (@I.nat .i64 (@I.quo .i64 x1.1.2.1 (I.of .i64 4))) (@I.add .u64 (@Arr.sel (I .u64) (I.of .u64 0) 4 x1.2.2.1 (@I.nat .i64 (@I.quo .i64 x1.1.2.1 (I.of .i64 4)))) (@I.shl .u64 .u64 (I.conv (k := .i64) .u64 (@rdL (I .i64) (I.of .i64 0) x1.1.1 (@I.nat .i64 x1.1.2.1))) (I.conv (k := .i64) .u64 (@I.mul .i64 (I.of .i64 16) (@I.rem .i64 x1.1.2.1 (I.of .i64 4))))))), ()))))
         (.done (none)))
        (.done (none)))
       (.done (none)))
      (.done (none))) fun j1 =>
   brn (@I.ltb .i64 x0.1.2.1 (I.ofNat .i64 (@lenL (I .i64) x0.1.1)))
    (brn (@I.ltb .i64 x0.1.2.1 (I.of .i64 16))
     (j1 ((x0.1.1, (x0.1.2.1, (x0.1.2.1, ((@I.ltb .i64 x0.1.2.1 (I.of .i64 16)), ())))), (x0.2.1, (x0.2.2.1, ()))))
     (.done (some ((x0.2.2.1, ()), ()))))
    (.done (some ((x0.2.2.1, ()), ()))))
 K0 ((a, ((I.of .i64 0), ())), (((I.of .u64 0), ((I.of .u64 0), ((I.of .u64 0), ((I.of .u64 0), ())))), (((I.of .u64 0), ((I.of .u64 0), ((I.of .u64 0), ((I.of .u64 0), ())))), ())))

/-- pontage/pontageref1.Mul -/
noncomputable def pontageref1_Mul (x : (⟨[.pl (.sl (.int .i64)), .pl (.sl (.int .i64))], []⟩ : Tm).D) : Option (⟨[.pl (.sl (.int .i64))], []⟩ : Tm).D :=
 let a : List (I .i64) := x.1.1
 let b : List (I .i64) := x.1.2.1
 brn (@inB' .i64 (@I.add .i64 (I.ofNat .i64 (@lenL (I .i64) a)) (I.ofNat .i64 (@lenL (I .i64) b))) (@I.nat .i64 (@I.add .i64 (I.ofNat .i64 (@lenL (I .i64) a)) (I.ofNat .i64 (@lenL (I .i64) b)))))
  (brn (@inB' .i64 (@I.add .i64 (I.ofNat .i64 (@lenL (I .i64) a)) (I.ofNat .i64 (@lenL (I .i64) b))) 1073741824)
   (iter (none) (fun x0 =>
     brn (@I.ltb .i64 x0.1.2.2.1 (I.ofNat .i64 (@lenL (I .i64) x0.1.1)))
      (iter (.done (none)) (fun x1 =>
        brn (@I.ltb .i64 x1.1.2.2.2.2.1 (I.ofNat .i64 (@lenL (I .i64) x1.1.2.1)))
         (brn (@inB .i64 (@I.add .i64 x1.1.2.2.1 x1.1.2.2.2.2.1) (@lenL (I .i64) x1.2.1))
          (brn (@inB .i64 x1.1.2.2.1 (@lenL (I .i64) x1.1.1))
           (brn (@inB .i64 x1.1.2.2.2.2.1 (@lenL (I .i64) x1.1.2.1))
            (brn (@inB .i64 (@I.add .i64 x1.1.2.2.1 x1.1.2.2.2.2.1) (@lenL (I .i64) x1.2.1))
             (.again ((x1.1.1, (x1.1.2.1, (x1.1.2.2.1, ((@I.shr .i64 .u64 (@I.add .i64 (@I.add .i64 x1.1.2.2.2.1 (@rdL (I .i64) (I.of .i64 0) x1.2.1 (@I.nat .i64 (@I.add .i64 x1.1.2.2.1 x1.1.2.2.2.2.1)))) (@I.mul .i64 (@rdL (I .i64) (I.of .i64 0) x1.1.1 (@I.nat .i64 x1.1.2.2.1)) (@rdL (I .i64) (I.of .i64 0) x1.1.2.1 (@I.nat .i64 x1.1.2.2.2.2.1)))) (I.of .u64 16)), ((@I.add .i64 x1.1.2.2.2.2.1 (I.of .i64 1)), ()))))), ((@setL (I .i64) x1.2.1 (@I.nat .i64 (@I.add .i64 x1.1.2.2.1 x1.1.2.2.2.2.1)) (@I.and .i64 (@I.add .i64 (@I.add .i64 x1.1.2.2.2.1 (@rdL (I .i64) (I.of .i64 0) x1.2.1 (@I.nat .i64 (@I.add .i64 x1.1.2.2.1 x1.1.2.2.2.2.1)))) (@I.mul .i64 (@rdL (I .i64) (I.of .i64 0) x1.1.1 (@I.nat .i64 x1.1.2.2.1)) (@rdL (I .i64) (I.of .i64 0) x1.1.2.1 (@I.nat .i64 x1.1.2.2.2.2.1)))) (I.of .i64 65535))), ())))
             (.done (.done (none))))
            (.done (.done (none))))
           (.done (.done (none))))
          (.done (.done (none))))
         (.done (brn (@inB .i64 (@I.add .i64 x1.1.2.2.1 (I.ofNat .i64 (@lenL (I .i64) x1.1.2.1))) (@lenL (I .i64) x1.2.1))
          (.again ((x1.1.1, (x1.1.2.1, ((@I.add .i64 x1.1.2.2.1 (I.of .i64 1)), ()))), ((@setL (I .i64) x1.2.1 (@I.nat .i64 (@I.add .i64 x1.1.2.2.1 (I.ofNat .i64 (@lenL (I .i64) x1.1.2.1)))) x1.1.2.2.2.1), ())))
          (.done (none)))))
      K0 ((x0.1.1, (x0.1.2.1, (x0.1.2.2.1, ((I.of .i64 0), ((I.of .i64 0), ()))))), (x0.2.1, ())))
      (.done (optF (none) (pontageref1_norm ((x0.2.1, ()), ())) fun y1 =>
      some ((y1.1.1, ()), ()))))
   K0 ((a, (b, ((I.of .i64 0), ()))), ((@repD (I .i64) (@I.nat .i64 (@I.add .i64 (I.ofNat .i64 (@lenL (I .i64) a)) (I.ofNat .i64 (@lenL (I .i64) b)))) (I.of .i64 0)), ())))
   (none))
  (none)

/-- pontage/pontageref1.Checked -/
noncomputable def pontageref1_Checked (x : (⟨[.pl (.sl (.int .i64))], []⟩ : Tm).D) : Option (⟨[.pl (.arr 4 (.int .u64)), .pl (.int .i64)], []⟩ : Tm).D :=
 let a : List (I .i64) := x.1.1
 optF (none) (pontageref1_Fits ((a, ()), ())) fun y0 =>
 brn (bnot y0.1.1)
  (some ((((I.of .u64 0), ((I.of .u64 0), ((I.of .u64 0), ((I.of .u64 0), ())))), ((I.of .i64 4), ())), ()))
  (optF (none) (pontageref1_ToUint256 ((a, ()), ())) fun y1 =>
  some ((y1.1.1, ((I.of .i64 0), ())), ()))

/-- pontage/pontageref1.IsZero -/
noncomputable def pontageref1_IsZero (x : (⟨[.pl (.arr 4 (.int .u64))], []⟩ : Tm).D) : Option (⟨[.pl .bool], []⟩ : Tm).D :=
 let a : (I .u64) × (I .u64) × (I .u64) × (I .u64) × Unit := x.1.1
 some (((Ty.eqb (.arr 4 (.int .u64)) a ((I.of .u64 0), ((I.of .u64 0), ((I.of .u64 0), ((I.of .u64 0), ()))))), ()), ())

end Sym

/- The given functions as plain functions, as the printer told them. -/
namespace Sym
open Go

/-- pontage/muldiv.shiftLeft -/
noncomputable def muldiv_shiftLeft (x : (⟨[.pl (.arr 4 (.int .u64)), .pl (.int .u64)], []⟩ : Tm).D) : Option (⟨[.pl (.arr 4 (.int .u64)), .pl (.int .u64)], []⟩ : Tm).D :=
 let a : (I .u64) × (I .u64) × (I .u64) × (I .u64) × Unit := x.1.1
 let b : I .u64 := x.1.2.1
 iter (none) (fun x0 =>
   brn (@I.ltb .i64 (I.of .i64 0) x0.1.2.2.1)
    (brn (@inB .i64 x0.1.2.2.1 4)
     (brn (@inB .i64 (@I.sub .i64 x0.1.2.2.1 (I.of .i64 1)) 4)
      (brn (@inB .i64 x0.1.2.2.1 4)
       (.again ((x0.1.1, (x0.1.2.1, ((@I.sub .i64 x0.1.2.2.1 (I.of .i64 1)), ()))), ((@Arr.upd (I .u64) 4 x0.2.1 (@I.nat .i64 x0.1.2.2.1) (@I.or .u64 (@I.shl .u64 .u64 (@Arr.sel (I .u64) (I.of .u64 0) 4 x0.2.1 (@I.nat .i64 x0.1.2.2.1)) (I.of .u64 1)) (@I.shr .u64 .u64 (@Arr.sel (I .u64) (I.of .u64 0) 4 x0.2.1 (@I.nat .i64 (@I.sub .i64 x0.1.2.2.1 (I.of .i64 1)))) (I.of .u64 63)))), (x0.2.2.1, ()))))
       (.done (none)))
      (.done (none)))
     (.done (none)))
    (.done (some ((((@I.or .u64 (@I.shl .u64 .u64 x0.2.1.1 (I.of .u64 1)) x0.1.1), (x0.2.1.2.1, (x0.2.1.2.2.1, (x0.2.1.2.2.2.1, ())))), (x0.1.2.1, ())), ()))))
 K0 ((b, ((@I.shr .u64 .u64 a.2.2.2.1 (I.of .u64 63)), ((I.of .i64 3), ()))), (a, (((I.of .u64 0), ((I.of .u64 0), ((I.of .u64 0), ((I.of .u64 0), ())))), ())))

/-- pontage/muldiv.subWrap -/
noncomputable def muldiv_subWrap (x : (⟨[.pl (.arr 4 (.int .u64)), .pl (.arr 4 (.int .u64))], []⟩ : Tm).D) : Option (⟨[.pl (.arr 4 (.int .u64))], []⟩ : Tm).D :=
 let a : (I .u64) × (I .u64) × (I .u64) × (I .u64) × Unit := x.1.1
 let b : (I .u64) × (I .u64) × (I .u64) × (I .u64) × Unit := x.1.2.1
 iter (none) (fun x0 =>
   brn (@I.ltb .i64 x0.1.2.1 (I.of .i64 4))
    (brn (@inB .i64 x0.1.2.1 4)
     (brn (@inB .i64 x0.1.2.1 4)
      (optF (.done (none)) (sub64F (((@Arr.sel (I .u64) (I.of .u64 0) 4 x0.2.1 (@I.nat .i64 x0.1.2.1)), ((@Arr.sel (I .u64) (I.of .u64 0) 4 x0.2.2.1 (@I.nat .i64 x0.1.2.1)), (x0.1.1, ()))), ())) fun y1 =>
      brn (@inB .i64 x0.1.2.1 4)
       (.again ((y1.1.2.1, ((@I.add .i64 x0.1.2.1 (I.of .i64 1)), ())), ((@Arr.upd (I .u64) 4 x0.2.1 (@I.nat .i64 x0.1.2.1) y1.1.1), (x0.2.2.1, (x0.2.2.2.1, ())))))
       (.done (none)))
      (.done (none)))
     (.done (none)))
    (.done (some ((x0.2.1, ()), ()))))
 K0 (((I.of .u64 0), ((I.of .i64 0), ())), (a, (b, (((I.of .u64 0), ((I.of .u64 0), ((I.of .u64 0), ((I.of .u64 0), ())))), ()))))

/-- pontage/muldiv.Div512 -/
noncomputable def muldiv_Div512 (x : (⟨[.pl (.arr 4 (.int .u64)), .pl (.arr 4 (.int .u64)), .pl (.arr 4 (.int .u64))], []⟩ : Tm).D) : Option (⟨[.pl (.arr 4 (.int .u64)), .pl (.arr 4 (.int .u64)), .pl (.int .i64)], []⟩ : Tm).D :=
 let a : (I .u64) × (I .u64) × (I .u64) × (I .u64) × Unit := x.1.1
 let b : (I .u64) × (I .u64) × (I .u64) × (I .u64) × Unit := x.1.2.1
 let c : (I .u64) × (I .u64) × (I .u64) × (I .u64) × Unit := x.1.2.2.1
 brn (Ty.eqb (.arr 4 (.int .u64)) c ((I.of .u64 0), ((I.of .u64 0), ((I.of .u64 0), ((I.of .u64 0), ())))))
  (some ((((I.of .u64 0), ((I.of .u64 0), ((I.of .u64 0), ((I.of .u64 0), ())))), (((I.of .u64 0), ((I.of .u64 0), ((I.of .u64 0), ((I.of .u64 0), ())))), ((I.of .i64 5), ()))), ()))
  (optF (none) (uint256_Cmp ((b, (c, ())), ())) fun y0 =>
  brn (@I.leb .i64 (I.of .i64 0) y0.1.1)
   (some ((((I.of .u64 0), ((I.of .u64 0), ((I.of .u64 0), ((I.of .u64 0), ())))), (((I.of .u64 0), ((I.of .u64 0), ((I.of .u64 0), ((I.of .u64 0), ())))), ((I.of .i64 4), ()))), ()))
   (iter (none) (fun x1 =>
     brn (@I.leb .i64 (I.of .i64 0) x1.1.1)
      (brn (@inB .i64 (@I.quo .i64 x1.1.1 (I.of .i64 64)) 4)
       (brn (@I.nn .i64 (@I.rem .i64 x1.1.1 (I.of .i64 64)))
        (optF (.done (none)) (muldiv_shiftLeft ((x1.2.2.2.2.1, ((@I.and .u64 (@I.shr .u64 .i64 (@Arr.sel (I .u64) (I.of .u64 0) 4 x1.2.1 (@I.nat .i64 (@I.quo .i64 x1.1.1 (I.of .i64 64)))) (@I.rem .i64 x1.1.1 (I.of .i64 64))) (I.of .u64 1)), ())), ())) fun y2 =>
        brn (@I.eqb .u64 y2.1.2.1 (I.of .u64 1))
         (optF (.done (none)) (muldiv_subWrap ((y2.1.1, (x1.2.2.1, ())), ())) fun y3 =>
         brn (@inB .i64 (@I.quo .i64 x1.1.1 (I.of .i64 64)) 4)
          (brn (@I.nn .i64 (@I.rem .i64 x1.1.1 (I.of .i64 64)))
           (brn (@inB .i64 (@I.quo .i64 x1.1.1 (I.of .i64 64)) 4)
            (.again (((@I.sub .i64 x1.1.1 (I.of .i64 1)), ()), (x1.2.1, (x1.2.2.1, ((@Arr.upd (I .u64) 4 x1.2.2.2.1 (@I.nat .i64 (@I.quo .i64 x1.1.1 (I.of .i64 64))) (@I.or .u64 (@Arr.sel (I .u64) (I.of .u64 0) 4 x1.2.2.2.1 (@I.nat .i64 (@I.quo .i64 x1.1.1 (I.of .i64 64)))) (@I.shl .u64 .i64 (I.of .u64 1) (@I.rem .i64 x1.1.1 (I.of .i64 64))))), (y3.1.1, ()))))))
            (.done (none)))
           (.done (none)))
          (.done (none)))
         (optF (.done (none)) (uint256_Cmp ((y2.1.1, (x1.2.2.1, ())), ())) fun y3 =>
         brn (@I.leb .i64 (I.of .i64 0) y3.1.1)
          (optF (.done (none)) (muldiv_subWrap ((y2.1.1, (x1.2.2.1, ())), ())) fun y4 =>
          brn (@inB .i64 (@I.quo .i64 x1.1.1 (I.of .i64 64)) 4)
           (brn (@I.nn .i64 (@I.rem .i64 x1.1.1 (I.of .i64 64)))
            (brn (@inB .i64 (@I.quo .i64 x1.1.1 (I.of .i64 64)) 4)
             (.again (((@I.sub .i64 x1.1.1 (I.of .i64 1)), ()), (x1.2.1, (x1.2.2.1, ((@Arr.upd (I .u64) 4 x1.2.2.2.1 (@I.nat .i64 (@I.quo .i64 x1.1.1 (I.of .i64 64))) (@I.or .u64 (@Arr.sel (I .u64) (I.of .u64 0) 4 x1.2.2.2.1 (@I.nat .i64 (@I.quo .i64 x1.1.1 (I.of .i64 64)))) (@I.shl .u64 .i64 (I.of .u64 1) (@I.rem .i64 x1.1.1 (I.of .i64 64))))), (y4.1.1, ()))))))
             (.done (none)))
            (.done (none)))
           (.done (none)))
          (.again (((@I.sub .i64 x1.1.1 (I.of .i64 1)), ()), (x1.2.1, (x1.2.2.1, (x1.2.2.2.1, (y2.1.1, ()))))))))
        (.done (none)))
       (.done (none)))
      (.done (some ((x1.2.2.2.1, (x1.2.2.2.2.1, ((I.of .i64 0), ()))), ()))))
   K0 (((I.of .i64 255), ()), (a, (c, (((I.of .u64 0), ((I.of .u64 0), ((I.of .u64 0), ((I.of .u64 0), ())))), (b, ())))))))

/-- pontage/muldiv.DivMod -/
noncomputable def muldiv_DivMod (x : (⟨[.pl (.arr 4 (.int .u64)), .pl (.arr 4 (.int .u64))], []⟩ : Tm).D) : Option (⟨[.pl (.arr 4 (.int .u64)), .pl (.arr 4 (.int .u64)), .pl (.int .i64)], []⟩ : Tm).D :=
 let a : (I .u64) × (I .u64) × (I .u64) × (I .u64) × Unit := x.1.1
 let b : (I .u64) × (I .u64) × (I .u64) × (I .u64) × Unit := x.1.2.1
 optF (none) (muldiv_Div512 ((a, (((I.of .u64 0), ((I.of .u64 0), ((I.of .u64 0), ((I.of .u64 0), ())))), (b, ()))), ())) fun y0 =>
 some ((y0.1.1, (y0.1.2.1, (y0.1.2.2.1, ()))), ())

/-- math/bits.Mul64 -/
noncomputable def math_bits_Mul64 (x : (⟨[.pl (.int .u64), .pl (.int .u64)], []⟩ : Tm).D) : Option (⟨[.pl (.int .u64), .pl (.int .u64)], []⟩ : Tm).D :=
 let a : I .u64 := x.1.1
 let b : I .u64 := x.1.2.1
 some (((@I.add .u64 (@I.add .u64 (@I.mul .u64 (@I.shr .u64 .u64 a (I.of .u64 32)) (@I.shr .u64 .u64 b (I.of .u64 32))) (@I.shr .u64 .u64 (@I.add .u64 (@I.mul .u64 (@I.shr .u64 .u64 a (I.of .u64 32)) (@I.and .u64 b (I.of .u64 4294967295))) (@I.shr .u64 .u64 (@I.mul .u64 (@I.and .u64 a (I.of .u64 4294967295)) (@I.and .u64 b (I.of .u64 4294967295))) (I.of .u64 32))) (I.of .u64 32))) (@I.shr .u64 .u64 (@I.add .u64 (@I.and .u64 (@I.add .u64 (@I.mul .u64 (@I.shr .u64 .u64 a (I.of .u64 32)) (@I.and .u64 b (I.of .u64 4294967295))) (@I.shr .u64 .u64 (@I.mul .u64 (@I.and .u64 a (I.of .u64 4294967295)) (@I.and .u64 b (I.of .u64 4294967295))) (I.of .u64 32))) (I.of .u64 4294967295)) (@I.mul .u64 (@I.and .u64 a (I.of .u64 4294967295)) (@I.shr .u64 .u64 b (I.of .u64 32)))) (I.of .u64 32))), ((@I.mul .u64 a b), ())), ())

/-- pontage/uint256.Mul -/
noncomputable def uint256_Mul (x : (⟨[.pl (.arr 4 (.int .u64)), .pl (.arr 4 (.int .u64))], []⟩ : Tm).D) : Option (⟨[.pl (.arr 4 (.int .u64)), .pl (.int .i64)], []⟩ : Tm).D :=
 let a : (I .u64) × (I .u64) × (I .u64) × (I .u64) × Unit := x.1.1
 let b : (I .u64) × (I .u64) × (I .u64) × (I .u64) × Unit := x.1.2.1
 iter (none) (fun x0 =>
   brn (@I.ltb .i64 x0.1.1 (I.of .i64 4))
    (iter (.done (none)) (fun x1 =>
      brn (@I.ltb .i64 x1.1.2.2.2.1 (I.of .i64 4))
       (brn (@inB .i64 x1.1.1 4)
        (brn (@inB .i64 x1.1.2.2.2.1 4)
         (optF (.done (.done (none))) (math_bits_Mul64 (((@Arr.sel (I .u64) (I.of .u64 0) 4 x1.2.1 (@I.nat .i64 x1.1.1)), ((@Arr.sel (I .u64) (I.of .u64 0) 4 x1.2.2.1 (@I.nat .i64 x1.1.2.2.2.1)), ())), ())) fun y2 =>
         brn (@I.ltb .i64 (I.of .i64 3) (@I.add .i64 x1.1.1 x1.1.2.2.2.1))
          (brn (@I.neb .u64 (@I.or .u64 y2.1.1 y2.1.2.1) (I.of .u64 0))
           (.done (.done (some ((((I.of .u64 0), ((I.of .u64 0), ((I.of .u64 0), ((I.of .u64 0), ())))), ((I.of .i64 4), ())), ()))))
           (.again ((x1.1.1, (x1.1.2.1, (x1.1.2.2.1, ((@I.add .i64 x1.1.2.2.2.1 (I.of .i64 1)), ())))), (x1.2.1, (x1.2.2.1, (x1.2.2.2.1, (x1.2.2.2.2.1, ())))))))
          (optF (.done (.done (none))) (add64F ((y2.1.2.1, (x1.1.2.1, ((I.of .u64 0), ()))), ())) fun y3 =>
          brn (@inB .i64 (@I.add .i64 x1.1.1 x1.1.2.2.2.1) 4)
           (optF (.done (.done (none))) (add64F (((@Arr.sel (I .u64) (I.of .u64 0) 4 x1.2.2.2.2.1 (@I.nat .i64 (@I.add .i64 x1.1.1 x1.1.2.2.2.1))), (y3.1.1, ((I.of .u64 0), ()))), ())) fun y4 =>
           brn (@inB .i64 (@I.add .i64 x1.1.1 x1.1.2.2.2.1) 4)
            (.again ((x1.1.1, ((@I.add .u64 (@I.add .u64 y2.1.1 y3.1.2.1) y4.1.2.1), (x1.1.2.2.1, ((@I.add .i64 x1.1.2.2.2.1 (I.of .i64 1)), ())))), (x1.2.1, (x1.2.2.1, (x1.2.2.2.1, ((@Arr.upd (I .u64) 4 x1.2.2.2.2.1 (@I.nat .i64 (@I.add .i64 x1.1.1 x1.1.2.2.2.1)) y4.1.1), ()))))))
            (.done (.done (none))))
           (.done (.done (none)))))
         (.done (.done (none))))
        (.done (.done (none))))
       (.done (brn (@I.neb .u64 x1.1.2.1 (I.of .u64 0))
        (.done (some ((((I.of .u64 0), ((I.of .u64 0), ((I.of .u64 0), ((I.of .u64 0), ())))), ((I.of .i64 4), ())), ())))
        (.again (((@I.add .i64 x1.1.2.2.1 (I.of .i64 1)), ()), (x1.2.1, (x1.2.2.1, (x1.2.2.2.1, (x1.2.2.2.2.1, ())))))))))
    K0 ((x0.1.1, ((I.of .u64 0), (x0.1.1, ((I.of .i64 0), ())))), (x0.2.1, (x0.2.2.1, (x0.2.2.2.1, (x0.2.2.2.2.1, ()))))))
    (.done (some ((x0.2.2.2.2.1, ((I.of .i64 0), ())), ()))))
 K0 (((I.of .i64 0), ()), (a, (b, (((I.of .u64 0), ((I.of .u64 0), ((I.of .u64 0), ((I.of .u64 0), ())))), (((I.of .u64 0), ((I.of .u64 0), ((I.of .u64 0), ((I.of .u64 0), ())))), ())))))

/-- pontage/uint256.FromUint64 -/
noncomputable def uint256_FromUint64 (x : (⟨[.pl (.int .u64)], []⟩ : Tm).D) : Option (⟨[.pl (.arr 4 (.int .u64))], []⟩ : Tm).D :=
 let a : I .u64 := x.1.1
 some (((a, ((I.of .u64 0), ((I.of .u64 0), ((I.of .u64 0), ())))), ()), ())

/-- pontage/uint256.SaturatingSub -/
noncomputable def uint256_SaturatingSub (x : (⟨[.pl (.arr 4 (.int .u64)), .pl (.arr 4 (.int .u64))], []⟩ : Tm).D) : Option (⟨[.pl (.arr 4 (.int .u64))], []⟩ : Tm).D :=
 let a : (I .u64) × (I .u64) × (I .u64) × (I .u64) × Unit := x.1.1
 let b : (I .u64) × (I .u64) × (I .u64) × (I .u64) × Unit := x.1.2.1
 optF (none) (uint256_Sub ((a, (b, ())), ())) fun y0 =>
 some ((y0.1.1, ()), ())

end Sym

/- The given functions as plain functions, as the printer told them. -/
namespace Sym
open Go

/-- pontage/uint256.Min -/
noncomputable def uint256_Min (x : (⟨[.pl (.arr 4 (.int .u64)), .pl (.sl (.arr 4 (.int .u64)))], []⟩ : Tm).D) : Option (⟨[.pl (.arr 4 (.int .u64))], []⟩ : Tm).D :=
 let a : (I .u64) × (I .u64) × (I .u64) × (I .u64) × Unit := x.1.1
 let b : List ((I .u64) × (I .u64) × (I .u64) × (I .u64) × Unit) := x.1.2.1
 iter (none) (fun x0 =>
   brn (@I.ltb .i64 x0.1.2.2.1 x0.1.2.1)
    (brn (@inB .i64 x0.1.2.2.1 (@lenL ((I .u64) × ((I .u64) × ((I .u64) × ((I .u64) × Unit)))) x0.1.1))
     (optF (.done (none)) (uint256_Cmp (((@rdL ((I .u64) × ((I .u64) × ((I .u64) × ((I .u64) × Unit)))) ((I.of .u64 0), ((I.of .u64 0), ((I.of .u64 0), ((I.of .u64 0), ())))) x0.1.1 (@I.nat .i64 x0.1.2.2.1)), (x0.2.1, ())), ())) fun y1 =>
     brn (@I.ltb .i64 y1.1.1 (I.of .i64 0))
      (.again ((x0.1.1, (x0.1.2.1, ((@I.add .i64 x0.1.2.2.1 (I.of .i64 1)), ()))), ((@rdL ((I .u64) × ((I .u64) × ((I .u64) × ((I .u64) × Unit)))) ((I.of .u64 0), ((I.of .u64 0), ((I.of .u64 0), ((I.of .u64 0), ())))) x0.1.1 (@I.nat .i64 x0.1.2.2.1)), (x0.2.2.1, ()))))
      (.again ((x0.1.1, (x0.1.2.1, ((@I.add .i64 x0.1.2.2.1 (I.of .i64 1)), ()))), (x0.2.1, (x0.2.2.1, ())))))
     (.done (none)))
    (.done (some ((x0.2.1, ()), ()))))
 K0 ((b, ((I.ofNat .i64 (@lenL ((I .u64) × ((I .u64) × ((I .u64) × ((I .u64) × Unit)))) b)), ((I.of .i64 0), ()))), (a, (((I.of .u64 0), ((I.of .u64 0), ((I.of .u64 0), ((I.of .u64 0), ())))), ())))

/-- pontage/txfee.GasPrice -/
noncomputable def txfee_GasPrice (x : (⟨[.pl (.cons (.int .u64) (.cons (.int .u64) (.cons (.int .u64) (.cons (.arr 4 (.int .u64)) (.cons (.int .u64) (.cons (.arr 4 (.int .u64)) (.cons (.arr 4 (.int .u64)) (.cons (.int .u64) (.cons (.sl (.int .u8)) .nil))))))))), .pl (.arr 4 (.int .u64))], []⟩ : Tm).D) : Option (⟨[.pl (.arr 4 (.int .u64)), .pl (.int .i64)], []⟩ : Tm).D :=
 let a : (I .u64) × (I .u64) × (I .u64) × ((I .u64) × (I .u64) × (I .u64) × (I .u64) × Unit) × (I .u64) × ((I .u64) × (I .u64) × (I .u64) × (I .u64) × Unit) × ((I .u64) × (I .u64) × (I .u64) × (I .u64) × Unit) × (I .u64) × (List (I .u8)) × Unit := x.1.1
 let b : (I .u64) × (I .u64) × (I .u64) × (I .u64) × Unit := x.1.2.1
 optF (none) (uint256_Sub ((a.2.2.2.2.2.1, (b, ())), ())) fun y0 =>
 brn (@I.neb .i64 y0.1.2.1 (I.of .i64 0))
  (some ((((I.of .u64 0), ((I.of .u64 0), ((I.of .u64 0), ((I.of .u64 0), ())))), ((I.of .i64 12), ())), ()))
  (optF (none) (uint256_Min ((a.2.2.2.2.2.2.1, ((y0.1.1 :: []), ())), ())) fun y1 =>
  optF (none) (uint256_Add ((b, (y1.1.1, ())), ())) fun y2 =>
  some ((y2.1.1, (y2.1.2.1, ())), ()))

/-- pontage/pontagelaw23.awake -/
noncomputable def pontagelaw23_awake (x : (⟨[], []⟩ : Tm).D) : Option (⟨[.pl .bool], []⟩ : Tm).D :=
 optF (none) (txfee_GasPrice ((((I.of .u64 0), ((I.of .u64 0), ((I.of .u64 0), (((I.of .u64 0), ((I.of .u64 0), ((I.of .u64 0), ((I.of .u64 0), ())))), ((I.of .u64 0), (((I.of .u64 10), ((I.of .u64 0), ((I.of .u64 0), ((I.of .u64 0), ())))), (((I.of .u64 3), ((I.of .u64 0), ((I.of .u64 0), ((I.of .u64 0), ())))), ((I.of .u64 0), ([], ()))))))))), (((I.of .u64 8), ((I.of .u64 0), ((I.of .u64 0), ((I.of .u64 0), ())))), ())), ())) fun y0 =>
 optF (none) (txfee_GasPrice ((((I.of .u64 0), ((I.of .u64 0), ((I.of .u64 0), (((I.of .u64 0), ((I.of .u64 0), ((I.of .u64 0), ((I.of .u64 0), ())))), ((I.of .u64 0), (((I.of .u64 7), ((I.of .u64 0), ((I.of .u64 0), ((I.of .u64 0), ())))), (((I.of .u64 0), ((I.of .u64 0), ((I.of .u64 0), ((I.of .u64 0), ())))), ((I.of .u64 0), ([], ()))))))))), (((I.of .u64 8), ((I.of .u64 0), ((I.of .u64 0), ((I.of .u64 0), ())))), ())), ())) fun y1 =>
 brn (Ty.eqb (.arr 4 (.int .u64)) y0.1.1 ((I.of .u64 10), ((I.of .u64 0), ((I.of .u64 0), ((I.of .u64 0), ())))))
  (brn (@I.eqb .i64 y0.1.2.1 (I.of .i64 0))
   (some (((@I.eqb .i64 y1.1.2.1 (I.of .i64 12)), ()), ()))
   (some ((false, ()), ())))
  (some ((false, ()), ()))

/-- pontage/uint256.maxValue -/
noncomputable def uint256_maxValue (x : (⟨[], []⟩ : Tm).D) : Option (⟨[.pl (.arr 4 (.int .u64))], []⟩ : Tm).D :=
 some ((((I.of .u64 18446744073709551615), ((I.of .u64 18446744073709551615), ((I.of .u64 18446744073709551615), ((I.of .u64 18446744073709551615), ())))), ()), ())

/-- pontage/uint256.SaturatingAdd -/
noncomputable def uint256_SaturatingAdd (x : (⟨[.pl (.arr 4 (.int .u64)), .pl (.arr 4 (.int .u64))], []⟩ : Tm).D) : Option (⟨[.pl (.arr 4 (.int .u64))], []⟩ : Tm).D :=
 let a : (I .u64) × (I .u64) × (I .u64) × (I .u64) × Unit := x.1.1
 let b : (I .u64) × (I .u64) × (I .u64) × (I .u64) × Unit := x.1.2.1
 optF (none) (uint256_Add ((a, (b, ())), ())) fun y0 =>
 brn (@I.eqb .i64 y0.1.2.1 (I.of .i64 0))
  (some ((y0.1.1, ()), ()))
  (optF (none) (uint256_maxValue ((), ())) fun y1 =>
  some ((y1.1.1, ()), ()))

/-- pontage/pontagelaw0.Mod -/
noncomputable def pontagelaw0_Mod (x : (⟨[.pl (.int .i64), .pl (.int .i64)], []⟩ : Tm).D) : Option (⟨[.pl (.int .i64)], []⟩ : Tm).D :=
 let a : I .i64 := x.1.1
 let b : I .i64 := x.1.2.1
 brn (@I.nz .u64 (I.conv (k := .i64) .u64 b))
  (some (((I.conv (k := .u64) .i64 (@I.rem .u64 (I.conv (k := .i64) .u64 a) (I.conv (k := .i64) .u64 b))), ()), ()))
  (none)

/-- pontage/pontagelaw0.RepetitiveBytes -/
noncomputable def pontagelaw0_RepetitiveBytes (x : (⟨[.pl (.sl (.int .i64))], []⟩ : Tm).D) : Option (⟨[.pl (.sl (.int .u8))], []⟩ : Tm).D :=
 let a : List (I .i64) := x.1.1
 iter (none) (fun x0 =>
   brn (@I.ltb .i64 x0.1.2.1 (I.ofNat .i64 (@lenL (I .i64) x0.1.1)))
    (brn (@inB .i64 x0.1.2.1 (@lenL (I .i64) x0.1.1))
     (optF (.done (none)) (pontagelaw0_Mod (((@rdL (I .i64) (I.of .i64 0) x0.1.1 (@I.nat .i64 x0.1.2.1)), ((I.of .i64 1048576), ())), ())) fun y1 =>
     jn (fun (x2 : (((List (I .i64)) × ((I .i64) × ((I .i64) × ((I .i64) × ((I .i64) × (Bool × Unit)))))) × ((List (I .u8)) × Unit))) =>
       brn x2.1.2.2.2.2.2.1
        (iter (.done (none)) (fun x3 =>
          brn (@I.ltb .i64 x3.1.2.2.2.2.1 x3.1.2.2.2.1)
           (brn (fitsLen (@lenL (I .u8) (@appL (I .u8) x3.2.1 ((I.conv (k := .i64) .u8 (@I.add .i64 (I.of .i64 97) (@I.rem .i64 (@I.quo .i64 x3.1.2.2.1 (I.of .i64 256)) (I.of .i64 3)))) :: []))))
            (.again ((x3.1.1, (x3.1.2.1, (x3.1.2.2.1, (x3.1.2.2.2.1, ((@I.add .i64 x3.1.2.2.2.2.1 (I.of .i64 1)), ()))))), ((@appL (I .u8) x3.2.1 ((I.conv (k := .i64) .u8 (@I.add .i64 (I.of .i64 97) (@I.rem .i64 (@I.quo .i64 x3.1.2.2.1 (I.of .i64 256)) (I.of .i64 3)))) :: [])), ())))
            (.done (.done (none))))
           (.done (.again ((x3.1.1, ((@I.add .i64 x3.1.2.1 (I.of .i64 1)), ())), (x3.2.1, ())))))
        K0 ((x2.1.1, (x2.1.2.1, (x2.1.2.2.1, (x2.1.2.2.2.1, ((I.of .i64 0), ()))))), (x2.2.1, ())))
        (jn (fun (x3 : (((List (I .i64)) × ((I .i64) × ((I .i64) × ((I .i64) × (Bool × Unit))))) × ((List (I .u8)) × Unit))) =>
          brn x3.1.2.2.2.2.1
           (jn (fun (x4 : (((List (I .i64)) × ((I .i64) × ((I .i64) × ((I .i64) × Unit)))) × ((List (I .u8)) × Unit))) =>
             iter (.done (none)) (fun x5 =>
               jn (fun (x6 : (((List (I .i64)) × ((I .i64) × ((I .i64) × ((I .i64) × ((I .i64) × ((I .i64) × ((I .i64) × ((I .i64) × ((I .i64) × (Bool × Unit)))))))))) × ((List (I .u8)) × Unit))) =>
                 brn (@inB .i64 (@I.add .i64 x6.1.2.2.2.1 x6.1.2.2.2.2.1) (@lenL (I .u8) x6.2.1))
                  (brn (fitsLen (@lenL (I .u8) (@appL (I .u8) x6.2.1 ((@rdL (I .u8) (I.of .u8 0) x6.2.1 (@I.nat .i64 (@I.add .i64 x6.1.2.2.2.1 x6.1.2.2.2.2.1))) :: []))))
                   (.again ((x6.1.1, (x6.1.2.1, (x6.1.2.2.1, (x6.1.2.2.2.1, ((@I.add .i64 x6.1.2.2.2.2.1 (I.of .i64 1)), ()))))), ((@appL (I .u8) x6.2.1 ((@rdL (I .u8) (I.of .u8 0) x6.2.1 (@I.nat .i64 (@I.add .i64 x6.1.2.2.2.1 x6.1.2.2.2.2.1))) :: [])), ())))
                   (.done (.done (none))))
                  (.done (.done (none)))) fun j6 =>
               brn (@I.ltb .i64 x5.1.2.2.2.2.1 x5.1.2.2.1)
                (brn (@I.ltb .i64 (@I.add .i64 x5.1.2.2.2.1 x5.1.2.2.2.2.1) (I.ofNat .i64 (@lenL (I .u8) x5.2.1)))
                 (j6 ((x5.1.1, (x5.1.2.1, (x5.1.2.2.1, (x5.1.2.2.2.1, (x5.1.2.2.2.2.1, (x5.1.2.2.2.1, (x5.1.2.2.2.2.1, ((@I.add .i64 x5.1.2.2.2.1 x5.1.2.2.2.2.1), ((I.ofNat .i64 (@lenL (I .u8) x5.2.1)), ((@I.ltb .i64 (@I.add .i64 x5.1.2.2.2.1 x5.1.2.2.2.2.1) (I.ofNat .i64 (@lenL (I .u8) x5.2.1))), ())))))))))), (x5.2.1, ())))
                 (.done (.again ((x5.1.1, ((@I.add .i64 x5.1.2.1 (I.of .i64 1)), ())), (x5.2.1, ())))))
                (.done (.again ((x5.1.1, ((@I.add .i64 x5.1.2.1 (I.of .i64 1)), ())), (x5.2.1, ())))))
             K0 ((x4.1.1, (x4.1.2.1, (x4.1.2.2.1, (x4.1.2.2.2.1, ((I.of .i64 0), ()))))), (x4.2.1, ()))) fun j4 =>
           brn (@I.ltb .i64 (I.of .i64 0) (I.ofNat .i64 (@lenL (I .u8) x3.2.1)))
            (brn (@I.nz .i64 (I.ofNat .i64 (@lenL (I .u8) x3.2.1)))
             (j4 ((x3.1.1, (x3.1.2.1, (x3.1.2.2.2.1, ((@I.rem .i64 (@I.quo .i64 x3.1.2.2.1 (I.of .i64 64)) (I.ofNat .i64 (@lenL (I .u8) x3.2.1))), ())))), (x3.2.1, ())))
             (.done (none)))
            (j4 ((x3.1.1, (x3.1.2.1, (x3.1.2.2.2.1, ((I.of .i64 0), ())))), (x3.2.1, ()))))
           (iter (.done (none)) (fun x4 =>
             brn (@I.ltb .i64 x4.1.2.2.2.2.1 x4.1.2.2.2.1)
              (brn (@I.nn .u64 (I.conv (k := .i64) .u64 (@I.rem .i64 x4.1.2.2.2.2.1 (I.of .i64 12))))
               (brn (fitsLen (@lenL (I .u8) (@appL (I .u8) x4.2.1 ((I.conv (k := .i64) .u8 (@I.add .i64 (@I.shr .i64 .u64 x4.1.2.2.1 (I.conv (k := .i64) .u64 (@I.rem .i64 x4.1.2.2.2.2.1 (I.of .i64 12)))) (@I.mul .i64 x4.1.2.2.2.2.1 x4.1.2.2.1))) :: []))))
                (.again ((x4.1.1, (x4.1.2.1, (x4.1.2.2.1, (x4.1.2.2.2.1, ((@I.add .i64 x4.1.2.2.2.2.1 (I.of .i64 1)), ()))))), ((@appL (I .u8) x4.2.1 ((I.conv (k := .i64) .u8 (@I.add .i64 (@I.shr .i64 .u64 x4.1.2.2.1 (I.conv (k := .i64) .u64 (@I.rem .i64 x4.1.2.2.2.2.1 (I.of .i64 12)))) (@I.mul .i64 x4.1.2.2.2.2.1 x4.1.2.2.1))) :: [])), ())))
                (.done (.done (none))))
               (.done (.done (none))))
              (.done (.again ((x4.1.1, ((@I.add .i64 x4.1.2.1 (I.of .i64 1)), ())), (x4.2.1, ())))))
           K0 ((x3.1.1, (x3.1.2.1, (x3.1.2.2.1, (x3.1.2.2.2.1, ((I.of .i64 0), ()))))), (x3.2.1, ())))) fun j3 =>
        brn (@I.eqb .i64 x2.1.2.2.2.2.1 (I.of .i64 2))
         (j3 ((x2.1.1, (x2.1.2.1, (x2.1.2.2.1, (x2.1.2.2.2.1, ((@I.eqb .i64 x2.1.2.2.2.2.1 (I.of .i64 2)), ()))))), (x2.2.1, ())))
         (brn (@I.eqb .i64 x2.1.2.2.2.2.1 (I.of .i64 3))
          (j3 ((x2.1.1, (x2.1.2.1, (x2.1.2.2.1, (x2.1.2.2.2.1, ((@I.eqb .i64 x2.1.2.2.2.2.1 (I.of .i64 3)), ()))))), (x2.2.1, ())))
          (j3 ((x2.1.1, (x2.1.2.1, (x2.1.2.2.1, (x2.1.2.2.2.1, ((@I.eqb .i64 x2.1.2.2.2.2.1 (I.of .i64 4)), ()))))), (x2.2.1, ())))))) fun j2 =>
     brn (@I.eqb .i64 (@I.rem .i64 y1.1.1 (I.of .i64 8)) (I.of .i64 0))
      (j2 ((x0.1.1, (x0.1.2.1, (y1.1.1, ((@I.add .i64 (I.of .i64 1) (@I.rem .i64 (@I.quo .i64 y1.1.1 (I.of .i64 8)) (I.of .i64 24))), ((@I.rem .i64 y1.1.1 (I.of .i64 8)), ((@I.eqb .i64 (@I.rem .i64 y1.1.1 (I.of .i64 8)) (I.of .i64 0)), ())))))), (x0.2.1, ())))
      (j2 ((x0.1.1, (x0.1.2.1, (y1.1.1, ((@I.add .i64 (I.of .i64 1) (@I.rem .i64 (@I.quo .i64 y1.1.1 (I.of .i64 8)) (I.of .i64 24))), ((@I.rem .i64 y1.1.1 (I.of .i64 8)), ((@I.eqb .i64 (@I.rem .i64 y1.1.1 (I.of .i64 8)) (I.of .i64 1)), ())))))), (x0.2.1, ()))))
     (.done (none)))
    (.done (some ((x0.2.1, ()), ()))))
 K0 ((a, ((I.of .i64 0), ())), ([], ()))

/-- pontage/pontagelaw0.EdgeUint256 -/
noncomputable def pontagelaw0_EdgeUint256 (x : (⟨[.pl (.int .u64), .pl (.int .u64), .pl (.int .i64)], []⟩ : Tm).D) : Option (⟨[.pl (.arr 4 (.int .u64))], []⟩ : Tm).D :=
 let a : I .u64 := x.1.1
 let b : I .u64 := x.1.2.1
 let c : I .i64 := x.1.2.2.1
 optF (none) (pontagelaw0_Mod ((c, ((I.of .i64 9), ())), ())) fun y0 =>
 brn (@I.eqb .i64 y0.1.1 (I.of .i64 0))
  (some (((a, ((I.of .u64 0), ((I.of .u64 0), ((I.of .u64 0), ())))), ()), ()))
  (brn (@I.eqb .i64 y0.1.1 (I.of .i64 1))
   (some (((a, (b, ((I.of .u64 0), ((I.of .u64 0), ())))), ()), ()))
   (brn (@I.eqb .i64 y0.1.1 (I.of .i64 2))
    (some (((a, (b, (a, (b, ())))), ()), ()))
    (brn (@I.eqb .i64 y0.1.1 (I.of .i64 3))
     (some ((((@I.sub .u64 (I.of .u64 18446744073709551615) (@I.rem .u64 a (I.of .u64 4))), ((I.of .u64 18446744073709551615), ((I.of .u64 18446744073709551615), ((I.of .u64 18446744073709551615), ())))), ()), ()))
     (brn (@I.eqb .i64 y0.1.1 (I.of .i64 4))
      (some ((((@I.rem .u64 a (I.of .u64 4)), ((I.of .u64 0), ((@I.add .u64 (I.of .u64 1) (@I.rem .u64 b (I.of .u64 4))), ((I.of .u64 0), ())))), ()), ()))
      (brn (@I.eqb .i64 y0.1.1 (I.of .i64 5))
       (some ((((I.of .u64 18446744073709551615), ((I.of .u64 18446744073709551615), ((I.of .u64 0), ((I.of .u64 0), ())))), ()), ()))
       (brn (@I.eqb .i64 y0.1.1 (I.of .i64 6))
        (brn (@I.nn .u64 (@I.rem .u64 b (I.of .u64 64)))
         (some ((((I.of .u64 0), ((I.of .u64 0), ((I.of .u64 0), ((@I.shl .u64 .u64 (I.of .u64 1) (@I.rem .u64 b (I.of .u64 64))), ())))), ()), ()))
         (none))
        (brn (@I.eqb .i64 y0.1.1 (I.of .i64 7))
         (some ((((@I.rem .u64 a (I.of .u64 16)), ((I.of .u64 0), ((I.of .u64 0), ((I.of .u64 0), ())))), ()), ()))
         (some (((b, (a, (b, ((I.of .u64 0), ())))), ()), ())))))))))

/-- pontage/pontagelaw23.build -/
noncomputable def pontagelaw23_build (x : (⟨[.pl (.cons (.int .u64) (.cons (.int .u64) (.cons (.int .u64) (.cons (.int .u64) (.cons (.int .u64) (.cons (.int .u64) (.cons (.int .i64) (.cons (.sl (.int .i64)) .nil))))))))], []⟩ : Tm).D) : Option (⟨[.pl (.cons (.int .u64) (.cons (.int .u64) (.cons (.int .u64) (.cons (.arr 4 (.int .u64)) (.cons (.int .u64) (.cons (.arr 4 (.int .u64)) (.cons (.arr 4 (.int .u64)) (.cons (.int .u64) (.cons (.sl (.int .u8)) .nil))))))))), .pl (.arr 4 (.int .u64)), .pl (.arr 4 (.int .u64))], []⟩ : Tm).D :=
 let a : (I .u64) × (I .u64) × (I .u64) × (I .u64) × (I .u64) × (I .u64) × (I .i64) × (List (I .i64)) × Unit := x.1.1
 brn (@I.nn .u64 (@I.add .u64 (I.of .u64 1) (@I.rem .u64 a.2.2.2.2.1 (I.of .u64 50))))
  (brn (@I.nz .u64 (@I.shl .u64 .u64 (I.of .u64 1) (@I.add .u64 (I.of .u64 1) (@I.rem .u64 a.2.2.2.2.1 (I.of .u64 50)))))
   (brn (@I.nn .u64 (@I.add .u64 (I.of .u64 1) (@I.rem .u64 a.1 (I.of .u64 40))))
    (brn (@I.nz .u64 (@I.shl .u64 .u64 (I.of .u64 1) (@I.add .u64 (I.of .u64 1) (@I.rem .u64 a.1 (I.of .u64 40)))))
     (brn (@I.nn .u64 (@I.add .u64 (I.of .u64 1) (@I.rem .u64 a.2.1 (I.of .u64 50))))
      (brn (@I.nz .u64 (@I.shl .u64 .u64 (I.of .u64 1) (@I.add .u64 (I.of .u64 1) (@I.rem .u64 a.2.1 (I.of .u64 50)))))
       (optF (none) (uint256_SaturatingAdd ((((@I.add .u64 (I.of .u64 1) (@I.rem .u64 a.2.2.2.2.1 (@I.shl .u64 .u64 (I.of .u64 1) (@I.add .u64 (I.of .u64 1) (@I.rem .u64 a.2.2.2.2.1 (I.of .u64 50)))))), ((I.of .u64 0), ((I.of .u64 0), ((I.of .u64 0), ())))), (((@I.rem .u64 a.2.1 (@I.shl .u64 .u64 (I.of .u64 1) (@I.add .u64 (I.of .u64 1) (@I.rem .u64 a.2.1 (I.of .u64 50))))), ((I.of .u64 0), ((I.of .u64 0), ((I.of .u64 0), ())))), ())), ())) fun y0 =>
       brn (@I.nn .u64 (@I.add .u64 (I.of .u64 1) (@I.rem .u64 a.2.2.1 (I.of .u64 50))))
        (brn (@I.nz .u64 (@I.shl .u64 .u64 (I.of .u64 1) (@I.add .u64 (I.of .u64 1) (@I.rem .u64 a.2.2.1 (I.of .u64 50)))))
         (brn (@I.nn .u64 (@I.add .u64 (I.of .u64 1) (@I.rem .u64 a.2.2.2.1 (I.of .u64 40))))
          (brn (@I.nz .u64 (@I.shl .u64 .u64 (I.of .u64 1) (@I.add .u64 (I.of .u64 1) (@I.rem .u64 a.2.2.2.1 (I.of .u64 40)))))
           (optF (none) (pontagelaw0_RepetitiveBytes ((a.2.2.2.2.2.2.2.1, ()), ())) fun y1 =>
           jn (fun (x2 : (Unit × (((I .u64) × ((I .u64) × ((I .u64) × ((I .u64) × ((I .u64) × ((I .u64) × ((I .i64) × ((List (I .i64)) × Unit)))))))) × (((I .u64) × ((I .u64) × ((I .u64) × (((I .u64) × ((I .u64) × ((I .u64) × ((I .u64) × Unit)))) × ((I .u64) × (((I .u64) × ((I .u64) × ((I .u64) × ((I .u64) × Unit)))) × (((I .u64) × ((I .u64) × ((I .u64) × ((I .u64) × Unit)))) × ((I .u64) × ((List (I .u8)) × Unit))))))))) × (((I .u64) × ((I .u64) × ((I .u64) × ((I .u64) × Unit)))) × (((I .u64) × ((I .u64) × ((I .u64) × ((I .u64) × Unit)))) × (((I .u64) × ((I .u64) × ((I .u64) × ((I .u64) × Unit)))) × (((I .u64) × ((I .u64) × ((I .u64) × (((I .u64) × ((I .u64) × ((I .u64) × ((I .u64) × Unit)))) × ((I .u64) × (((I .u64) × ((I .u64) × ((I .u64) × ((I .u64) × Unit)))) × (((I .u64) × ((I .u64) × ((I .u64) × ((I .u64) × Unit)))) × ((I .u64) × ((List (I .u8)) × Unit))))))))) × Unit)))))))) =>
             brn (@I.nn .u64 (@I.add .u64 (I.of .u64 1) (@I.rem .u64 x2.2.1.2.2.2.2.2.1 (I.of .u64 40))))
              (brn (@I.nz .u64 (@I.shl .u64 .u64 (I.of .u64 1) (@I.add .u64 (I.of .u64 1) (@I.rem .u64 x2.2.1.2.2.2.2.2.1 (I.of .u64 40)))))
               (some ((x2.2.2.2.2.2.2.1, (x2.2.2.2.2.2.1, (((@I.rem .u64 x2.2.1.2.2.2.2.2.1 (@I.shl .u64 .u64 (I.of .u64 1) (@I.add .u64 (I.of .u64 1) (@I.rem .u64 x2.2.1.2.2.2.2.2.1 (I.of .u64 40))))), ((I.of .u64 0), ((I.of .u64 0), ((I.of .u64 0), ())))), ()))), ()))
               (none))
              (none)) fun j2 =>
           optF (none) (pontagelaw0_Mod ((a.2.2.2.2.2.2.1, ((I.of .i64 8), ())), ())) fun y3 =>
           brn (@I.eqb .i64 y3.1.1 (I.of .i64 0))
            (j2 ((), (a, (((I.of .u64 0), ((I.of .u64 0), ((I.of .u64 0), (((I.of .u64 0), ((I.of .u64 0), ((I.of .u64 0), ((I.of .u64 0), ())))), ((I.of .u64 0), (((I.of .u64 0), ((I.of .u64 0), ((I.of .u64 0), ((I.of .u64 0), ())))), (((I.of .u64 0), ((I.of .u64 0), ((I.of .u64 0), ((I.of .u64 0), ())))), ((I.of .u64 0), ([], ()))))))))), (((I.of .u64 0), ((I.of .u64 0), ((I.of .u64 0), ((I.of .u64 0), ())))), (((I.of .u64 0), ((I.of .u64 0), ((I.of .u64 0), ((I.of .u64 0), ())))), (((@I.add .u64 (I.of .u64 1) (@I.rem .u64 a.2.2.2.2.1 (@I.shl .u64 .u64 (I.of .u64 1) (@I.add .u64 (I.of .u64 1) (@I.rem .u64 a.2.2.2.2.1 (I.of .u64 50)))))), ((I.of .u64 0), ((I.of .u64 0), ((I.of .u64 0), ())))), (((I.of .u64 1), ((I.of .u64 0), ((I.of .u64 2), (((I.of .u64 0), ((I.of .u64 0), ((I.of .u64 0), ((I.of .u64 0), ())))), ((@I.rem .u64 a.1 (@I.shl .u64 .u64 (I.of .u64 1) (@I.add .u64 (I.of .u64 1) (@I.rem .u64 a.1 (I.of .u64 40))))), ((a.2.1, ((I.of .u64 0), ((I.of .u64 0), ((I.of .u64 0), ())))), (((@I.rem .u64 a.2.2.1 (@I.shl .u64 .u64 (I.of .u64 1) (@I.add .u64 (I.of .u64 1) (@I.rem .u64 a.2.2.1 (I.of .u64 50))))), ((I.of .u64 0), ((I.of .u64 0), ((I.of .u64 0), ())))), ((@I.rem .u64 a.2.2.2.1 (@I.shl .u64 .u64 (I.of .u64 1) (@I.add .u64 (I.of .u64 1) (@I.rem .u64 a.2.2.2.1 (I.of .u64 40))))), (y1.1.1, ()))))))))), ()))))))))
            (brn (@I.eqb .i64 y3.1.1 (I.of .i64 1))
             (optF (none) (pontagelaw0_EdgeUint256 ((a.2.2.1, (a.2.1, ((@I.quo .i64 a.2.2.2.2.2.2.1 (I.of .i64 8)), ()))), ())) fun y4 =>
             j2 ((), (a, (((I.of .u64 0), ((I.of .u64 0), ((I.of .u64 0), (((I.of .u64 0), ((I.of .u64 0), ((I.of .u64 0), ((I.of .u64 0), ())))), ((I.of .u64 0), (((I.of .u64 0), ((I.of .u64 0), ((I.of .u64 0), ((I.of .u64 0), ())))), (((I.of .u64 0), ((I.of .u64 0), ((I.of .u64 0), ((I.of .u64 0), ())))), ((I.of .u64 0), ([], ()))))))))), (((I.of .u64 0), ((I.of .u64 0), ((I.of .u64 0), ((I.of .u64 0), ())))), (((I.of .u64 0), ((I.of .u64 0), ((I.of .u64 0), ((I.of .u64 0), ())))), (((@I.add .u64 (I.of .u64 1) (@I.rem .u64 a.2.2.2.2.1 (@I.shl .u64 .u64 (I.of .u64 1) (@I.add .u64 (I.of .u64 1) (@I.rem .u64 a.2.2.2.2.1 (I.of .u64 50)))))), ((I.of .u64 0), ((I.of .u64 0), ((I.of .u64 0), ())))), (((I.of .u64 1), ((I.of .u64 0), ((I.of .u64 2), (((I.of .u64 0), ((I.of .u64 0), ((I.of .u64 0), ((I.of .u64 0), ())))), ((@I.rem .u64 a.1 (@I.shl .u64 .u64 (I.of .u64 1) (@I.add .u64 (I.of .u64 1) (@I.rem .u64 a.1 (I.of .u64 40))))), (y0.1.1, (y4.1.1, ((@I.rem .u64 a.2.2.2.1 (@I.shl .u64 .u64 (I.of .u64 1) (@I.add .u64 (I.of .u64 1) (@I.rem .u64 a.2.2.2.1 (I.of .u64 40))))), (y1.1.1, ()))))))))), ()))))))))
             (brn (@I.eqb .i64 y3.1.1 (I.of .i64 2))
              (optF (none) (pontagelaw0_EdgeUint256 ((a.2.1, (a.2.2.1, ((@I.quo .i64 a.2.2.2.2.2.2.1 (I.of .i64 8)), ()))), ())) fun y4 =>
              optF (none) (pontagelaw0_EdgeUint256 ((a.2.2.1, (a.2.1, ((@I.quo .i64 a.2.2.2.2.2.2.1 (I.of .i64 64)), ()))), ())) fun y5 =>
              j2 ((), (a, (((I.of .u64 0), ((I.of .u64 0), ((I.of .u64 0), (((I.of .u64 0), ((I.of .u64 0), ((I.of .u64 0), ((I.of .u64 0), ())))), ((I.of .u64 0), (((I.of .u64 0), ((I.of .u64 0), ((I.of .u64 0), ((I.of .u64 0), ())))), (((I.of .u64 0), ((I.of .u64 0), ((I.of .u64 0), ((I.of .u64 0), ())))), ((I.of .u64 0), ([], ()))))))))), (((I.of .u64 0), ((I.of .u64 0), ((I.of .u64 0), ((I.of .u64 0), ())))), (((I.of .u64 0), ((I.of .u64 0), ((I.of .u64 0), ((I.of .u64 0), ())))), (((@I.add .u64 (I.of .u64 1) (@I.rem .u64 a.2.2.2.2.1 (@I.shl .u64 .u64 (I.of .u64 1) (@I.add .u64 (I.of .u64 1) (@I.rem .u64 a.2.2.2.2.1 (I.of .u64 50)))))), ((I.of .u64 0), ((I.of .u64 0), ((I.of .u64 0), ())))), (((I.of .u64 1), ((I.of .u64 0), ((I.of .u64 2), (((I.of .u64 0), ((I.of .u64 0), ((I.of .u64 0), ((I.of .u64 0), ())))), ((@I.rem .u64 a.1 (@I.shl .u64 .u64 (I.of .u64 1) (@I.add .u64 (I.of .u64 1) (@I.rem .u64 a.1 (I.of .u64 40))))), (y4.1.1, (y5.1.1, ((@I.rem .u64 a.2.2.2.1 (@I.shl .u64 .u64 (I.of .u64 1) (@I.add .u64 (I.of .u64 1) (@I.rem .u64 a.2.2.2.1 (I.of .u64 40))))), (y1.1.1, ()))))))))), ()))))))))
              (brn (@I.eqb .i64 y3.1.1 (I.of .i64 3))
               (j2 ((), (a, (((I.of .u64 0), ((I.of .u64 0), ((I.of .u64 0), (((I.of .u64 0), ((I.of .u64 0), ((I.of .u64 0), ((I.of .u64 0), ())))), ((I.of .u64 0), (((I.of .u64 0), ((I.of .u64 0), ((I.of .u64 0), ((I.of .u64 0), ())))), (((I.of .u64 0), ((I.of .u64 0), ((I.of .u64 0), ((I.of .u64 0), ())))), ((I.of .u64 0), ([], ()))))))))), (((I.of .u64 0), ((I.of .u64 0), ((I.of .u64 0), ((I.of .u64 0), ())))), (((I.of .u64 0), ((I.of .u64 0), ((I.of .u64 0), ((I.of .u64 0), ())))), (((@I.add .u64 (I.of .u64 1) (@I.rem .u64 a.2.2.2.2.1 (@I.shl .u64 .u64 (I.of .u64 1) (@I.add .u64 (I.of .u64 1) (@I.rem .u64 a.2.2.2.2.1 (I.of .u64 50)))))), ((I.of .u64 0), ((I.of .u64 0), ((I.of .u64 0), ())))), (((I.of .u64 1), ((I.of .u64 0), ((I.of .u64 2), (((I.of .u64 0), ((I.of .u64 0), ((I.of .u64 0), ((I.of .u64 0), ())))), (a.1, (y0.1.1, (((@I.rem .u64 a.2.2.1 (@I.shl .u64 .u64 (I.of .u64 1) (@I.add .u64 (I.of .u64 1) (@I.rem .u64 a.2.2.1 (I.of .u64 50))))), ((I.of .u64 0), ((I.of .u64 0), ((I.of .u64 0), ())))), (a.2.2.2.1, (y1.1.1, ()))))))))), ()))))))))
               (j2 ((), (a, (((I.of .u64 0), ((I.of .u64 0), ((I.of .u64 0), (((I.of .u64 0), ((I.of .u64 0), ((I.of .u64 0), ((I.of .u64 0), ())))), ((I.of .u64 0), (((I.of .u64 0), ((I.of .u64 0), ((I.of .u64 0), ((I.of .u64 0), ())))), (((I.of .u64 0), ((I.of .u64 0), ((I.of .u64 0), ((I.of .u64 0), ())))), ((I.of .u64 0), ([], ()))))))))), (((I.of .u64 0), ((I.of .u64 0), ((I.of .u64 0), ((I.of .u64 0), ())))), (((I.of .u64 0), ((I.of .u64 0), ((I.of .u64 0), ((I.of .u64 0), ())))), (((@I.add .u64 (I.of .u64 1) (@I.rem .u64 a.2.2.2.2.1 (@I.shl .u64 .u64 (I.of .u64 1) (@I.add .u64 (I.of .u64 1) (@I.rem .u64 a.2.2.2.2.1 (I.of .u64 50)))))), ((I.of .u64 0), ((I.of .u64 0), ((I.of .u64 0), ())))), (((I.of .u64 1), ((I.of .u64 0), ((I.of .u64 2), (((I.of .u64 0), ((I.of .u64 0), ((I.of .u64 0), ((I.of .u64 0), ())))), ((@I.rem .u64 a.1 (@I.shl .u64 .u64 (I.of .u64 1) (@I.add .u64 (I.of .u64 1) (@I.rem .u64 a.1 (I.of .u64 40))))), (y0.1.1, (((@I.rem .u64 a.2.2.1 (@I.shl .u64 .u64 (I.of .u64 1) (@I.add .u64 (I.of .u64 1) (@I.rem .u64 a.2.2.1 (I.of .u64 50))))), ((I.of .u64 0), ((I.of .u64 0), ((I.of .u64 0), ())))), ((@I.rem .u64 a.2.2.2.1 (@I.shl .u64 .u64 (I.of .u64 1) (@I.add .u64 (I.of .u64 1) (@I.rem .u64 a.2.2.2.1 (I.of .u64 40))))), (y1.1.1, ()))))))))), ()))))))))))))
           (none))
          (none))
         (none))
        (none))
       (none))
      (none))
     (none))
    (none))
   (none))
  (none)

/-- pontage/pontagelaw23.TxfeeGasPriceBounds -/
noncomputable def pontagelaw23_TxfeeGasPriceBounds (x : (⟨[.pl (.cons (.int .u64) (.cons (.int .u64) (.cons (.int .u64) (.cons (.int .u64) (.cons (.int .u64) (.cons (.int .u64) (.cons (.int .i64) (.cons (.sl (.int .i64)) .nil)))))))), .pl (.int .u64)], []⟩ : Tm).D) : Option (⟨[.pl .bool], []⟩ : Tm).D :=
 let a : (I .u64) × (I .u64) × (I .u64) × (I .u64) × (I .u64) × (I .u64) × (I .i64) × (List (I .i64)) × Unit := x.1.1
 let b : I .u64 := x.1.2.1
 brn (@I.ltb .i64 (I.of .i64 5) (I.ofNat .i64 (@lenL (I .i64) a.2.2.2.2.2.2.2.1)))
  (optF (none) (pontagelaw23_awake ((), ())) fun y0 =>
  some ((y0.1.1, ()), ()))
  (optF (none) (pontagelaw23_build ((a, ()), ())) fun y0 =>
  optF (none) (txfee_GasPrice ((y0.1.1, (y0.1.2.1, ())), ())) fun y1 =>
  brn (@I.neb .i64 y1.1.2.1 (I.of .i64 0))
   (brn (@I.eqb .i64 y1.1.2.1 (I.of .i64 12))
    (optF (none) (uint256_Cmp ((y0.1.1.2.2.2.2.2.1, (y0.1.2.1, ())), ())) fun y2 =>
    brn (@I.ltb .i64 y2.1.1 (I.of .i64 0))
     (optF (none) (pontagelaw23_awake ((), ())) fun y3 =>
     some ((y3.1.1, ()), ()))
     (some ((false, ()), ())))
    (some ((false, ()), ())))
   (optF (none) (uint256_Add ((y0.1.2.1, (y0.1.1.2.2.2.2.2.2.1, ())), ())) fun y2 =>
   optF (none) (uint256_SaturatingAdd ((y0.1.1.2.2.2.2.2.2.1, ((b, ((I.of .u64 0), ((I.of .u64 0), ((I.of .u64 0), ())))), ())), ())) fun y3 =>
   optF (none) (uint256_SaturatingAdd ((y0.1.1.2.2.2.2.2.1, ((b, ((I.of .u64 0), ((I.of .u64 0), ((I.of .u64 0), ())))), ())), ())) fun y4 =>
   optF (none) (txfee_GasPrice (((y0.1.1.1, (y0.1.1.2.1, (y0.1.1.2.2.1, (y0.1.1.2.2.2.1, (y0.1.1.2.2.2.2.1, (y0.1.1.2.2.2.2.2.1, (y3.1.1, y0.1.1.2.2.2.2.2.2.2))))))), (y0.1.2.1, ())), ())) fun y5 =>
   optF (none) (txfee_GasPrice (((y0.1.1.1, (y0.1.1.2.1, (y0.1.1.2.2.1, (y0.1.1.2.2.2.1, (y0.1.1.2.2.2.2.1, (y4.1.1, y0.1.1.2.2.2.2.2.2)))))), (y0.1.2.1, ())), ())) fun y6 =>
   brn (@I.eqb .i64 y5.1.2.1 (I.of .i64 0))
    (brn (@I.eqb .i64 y6.1.2.1 (I.of .i64 0))
     (optF (none) (uint256_Cmp ((y0.1.2.1, (y1.1.1, ())), ())) fun y7 =>
     brn (@I.leb .i64 y7.1.1 (I.of .i64 0))
      (optF (none) (uint256_Cmp ((y1.1.1, (y0.1.1.2.2.2.2.2.1, ())), ())) fun y8 =>
      brn (@I.leb .i64 y8.1.1 (I.of .i64 0))
       (brn (Ty.eqb (.arr 4 (.int .u64)) y1.1.1 y0.1.1.2.2.2.2.2.1)
        (optF (none) (uint256_Cmp ((y1.1.1, (y5.1.1, ())), ())) fun y9 =>
        brn (@I.leb .i64 y9.1.1 (I.of .i64 0))
         (optF (none) (uint256_Cmp ((y1.1.1, (y6.1.1, ())), ())) fun y10 =>
         brn (@I.leb .i64 y10.1.1 (I.of .i64 0))
          (optF (none) (pontagelaw23_awake ((), ())) fun y11 =>
          some ((y11.1.1, ()), ()))
          (some ((false, ()), ())))
         (some ((false, ()), ())))
        (brn (@I.eqb .i64 y2.1.2.1 (I.of .i64 0))
         (brn (Ty.eqb (.arr 4 (.int .u64)) y1.1.1 y2.1.1)
          (optF (none) (uint256_Cmp ((y1.1.1, (y5.1.1, ())), ())) fun y9 =>
          brn (@I.leb .i64 y9.1.1 (I.of .i64 0))
           (optF (none) (uint256_Cmp ((y1.1.1, (y6.1.1, ())), ())) fun y10 =>
           brn (@I.leb .i64 y10.1.1 (I.of .i64 0))
            (optF (none) (pontagelaw23_awake ((), ())) fun y11 =>
            some ((y11.1.1, ()), ()))
            (some ((false, ()), ())))
           (some ((false, ()), ())))
          (some ((false, ()), ())))
         (some ((false, ()), ()))))
       (some ((false, ()), ())))
      (some ((false, ()), ())))
     (some ((false, ()), ())))
    (some ((false, ()), ()))))

/-- pontage/txfee.Total -/
noncomputable def txfee_Total (x : (⟨[.pl (.cons (.int .u64) (.cons (.int .u64) (.cons (.int .u64) (.cons (.int .u64) (.cons .bool (.cons (.arr 4 (.int .u64)) (.cons (.arr 4 (.int .u64)) (.cons (.arr 4 (.int .u64)) (.cons (.arr 4 (.int .u64)) (.cons (.arr 4 (.int .u64)) .nil))))))))))], []⟩ : Tm).D) : Option (⟨[.pl (.arr 4 (.int .u64)), .pl (.int .i64)], []⟩ : Tm).D :=
 let a : (I .u64) × (I .u64) × (I .u64) × (I .u64) × (Bool) × ((I .u64) × (I .u64) × (I .u64) × (I .u64) × Unit) × ((I .u64) × (I .u64) × (I .u64) × (I .u64) × Unit) × ((I .u64) × (I .u64) × (I .u64) × (I .u64) × Unit) × ((I .u64) × (I .u64) × (I .u64) × (I .u64) × Unit) × ((I .u64) × (I .u64) × (I .u64) × (I .u64) × Unit) × Unit := x.1.1
 iter (none) (fun x0 =>
   brn (@I.ltb .i64 x0.1.2.1 x0.1.1)
    (brn (@inB .i64 x0.1.2.1 (@lenL ((I .u64) × ((I .u64) × ((I .u64) × ((I .u64) × Unit)))) x0.2.2.2.1))
     (optF (.done (none)) (uint256_Add ((x0.2.2.1, ((@rdL ((I .u64) × ((I .u64) × ((I .u64) × ((I .u64) × Unit)))) ((I.of .u64 0), ((I.of .u64 0), ((I.of .u64 0), ((I.of .u64 0), ())))) x0.2.2.2.1 (@I.nat .i64 x0.1.2.1)), ())), ())) fun y1 =>
     brn (@I.neb .i64 y1.1.2.1 (I.of .i64 0))
      (.done (some ((((I.of .u64 0), ((I.of .u64 0), ((I.of .u64 0), ((I.of .u64 0), ())))), (y1.1.2.1, ())), ())))
      (.again ((x0.1.1, ((@I.add .i64 x0.1.2.1 (I.of .i64 1)), ())), (x0.2.1, (y1.1.1, (x0.2.2.2.1, ()))))))
     (.done (none)))
    (.done (some ((x0.2.2.1, ((I.of .i64 0), ())), ()))))
 K0 (((I.of .i64 3), ((I.of .i64 0), ())), (((I.of .u64 0), ((I.of .u64 0), ((I.of .u64 0), ((I.of .u64 0), ())))), (a.2.2.2.2.2.2.1, ((a.2.2.2.2.2.2.2.1 :: (a.2.2.2.2.2.2.2.2.1 :: (a.2.2.2.2.2.2.2.2.2.1 :: []))), ()))))

/-- pontage/pontageref23.Total -/
noncomputable def pontageref23_Total (x : (⟨[.pl (.cons (.int .u64) (.cons (.int .u64) (.cons (.int .u64) (.cons (.int .u64) (.cons .bool (.cons (.arr 4 (.int .u64)) (.cons (.arr 4 (.int .u64)) (.cons (.arr 4 (.int .u64)) (.cons (.arr 4 (.int .u64)) (.cons (.arr 4 (.int .u64)) .nil))))))))))], []⟩ : Tm).D) : Option (⟨[.pl (.arr 4 (.int .u64)), .pl (.int .i64)], []⟩ : Tm).D :=
 let a : (I .u64) × (I .u64) × (I .u64) × (I .u64) × (Bool) × ((I .u64) × (I .u64) × (I .u64) × (I .u64) × Unit) × ((I .u64) × (I .u64) × (I .u64) × (I .u64) × Unit) × ((I .u64) × (I .u64) × (I .u64) × (I .u64) × Unit) × ((I .u64) × (I .u64) × (I .u64) × (I .u64) × Unit) × ((I .u64) × (I .u64) × (I .u64) × (I .u64) × Unit) × Unit := x.1.1
 optF (none) (pontageref1_FromUint256 ((a.2.2.2.2.2.2.1, ()), ())) fun y0 =>
 optF (none) (pontageref1_FromUint256 ((a.2.2.2.2.2.2.2.1, ()), ())) fun y1 =>
 optF (none) (pontageref1_Add ((y0.1.1, (y1.1.1, ())), ())) fun y2 =>
 optF (none) (pontageref1_FromUint256 ((a.2.2.2.2.2.2.2.2.1, ()), ())) fun y3 =>
 optF (none) (pontageref1_FromUint256 ((a.2.2.2.2.2.2.2.2.2.1, ()), ())) fun y4 =>
 optF (none) (pontageref1_Add ((y3.1.1, (y4.1.1, ())), ())) fun y5 =>
 optF (none) (pontageref1_Add ((y2.1.1, (y5.1.1, ())), ())) fun y6 =>
 optF (none) (pontageref1_Checked ((y6.1.1, ()), ())) fun y7 =>
 some ((y7.1.1, (y7.1.2.1, ())), ())

/-- pontage/pontagelaw23.TxFeeSum -/
noncomputable def pontagelaw23_TxFeeSum (x : (⟨[.pl (.cons (.int .u64) (.cons (.int .u64) (.cons (.int .u64) (.cons (.int .u64) (.cons .bool (.cons (.arr 4 (.int .u64)) (.cons (.arr 4 (.int .u64)) (.cons (.arr 4 (.int .u64)) (.cons (.arr 4 (.int .u64)) (.cons (.arr 4 (.int .u64)) .nil)))))))))), .pl (.arr 4 (.int .u64))], []⟩ : Tm).D) : Option (⟨[.pl .bool], []⟩ : Tm).D :=
 let a : (I .u64) × (I .u64) × (I .u64) × (I .u64) × (Bool) × ((I .u64) × (I .u64) × (I .u64) × (I .u64) × Unit) × ((I .u64) × (I .u64) × (I .u64) × (I .u64) × Unit) × ((I .u64) × (I .u64) × (I .u64) × (I .u64) × Unit) × ((I .u64) × (I .u64) × (I .u64) × (I .u64) × Unit) × ((I .u64) × (I .u64) × (I .u64) × (I .u64) × Unit) × Unit := x.1.1
 let b : (I .u64) × (I .u64) × (I .u64) × (I .u64) × Unit := x.1.2.1
 optF (none) (txfee_Total ((a, ()), ())) fun y0 =>
 optF (none) (pontageref23_Total ((a, ()), ())) fun y1 =>
 optF (none) (txfee_Total ((((I.of .u64 0), ((I.of .u64 0), ((I.of .u64 0), ((I.of .u64 0), (false, (((I.of .u64 0), ((I.of .u64 0), ((I.of .u64 0), ((I.of .u64 0), ())))), ((b.1, ((I.of .u64 0), ((I.of .u64 0), ((I.of .u64 0), ())))), ((b.2.1, ((I.of .u64 0), ((I.of .u64 0), ((I.of .u64 0), ())))), ((b.2.2.1, ((I.of .u64 0), ((I.of .u64 0), ((I.of .u64 0), ())))), ((b.2.2.2.1, ((I.of .u64 0), ((I.of .u64 0), ((I.of .u64 0), ())))), ())))))))))), ()), ())) fun y2 =>
 optF (none) (pontageref23_Total ((((I.of .u64 0), ((I.of .u64 0), ((I.of .u64 0), ((I.of .u64 0), (false, (((I.of .u64 0), ((I.of .u64 0), ((I.of .u64 0), ((I.of .u64 0), ())))), ((b.1, ((I.of .u64 0), ((I.of .u64 0), ((I.of .u64 0), ())))), ((b.2.1, ((I.of .u64 0), ((I.of .u64 0), ((I.of .u64 0), ())))), ((b.2.2.1, ((I.of .u64 0), ((I.of .u64 0), ((I.of .u64 0), ())))), ((b.2.2.2.1, ((I.of .u64 0), ((I.of .u64 0), ((I.of .u64 0), ())))), ())))))))))), ()), ())) fun y3 =>
 brn (Ty.eqb (.arr 4 (.int .u64)) y0.1.1 y1.1.1)
  (brn (@I.eqb .i64 y0.1.2.1 y1.1.2.1)
   (brn (Ty.eqb (.arr 4 (.int .u64)) y2.1.1 y3.1.1)
    (brn (@I.eqb .i64 y2.1.2.1 y3.1.2.1)
     (optF (none) (pontagelaw23_awake ((), ())) fun y4 =>
     some ((y4.1.1, ()), ()))
     (some ((false, ()), ())))
    (some ((false, ()), ())))
   (some ((false, ()), ())))
  (some ((false, ()), ()))

/-- pontage/pontageref1.Min -/
noncomputable def pontageref1_Min (x : (⟨[.pl (.sl (.int .i64)), .pl (.sl (.int .i64))], []⟩ : Tm).D) : Option (⟨[.pl (.sl (.int .i64))], []⟩ : Tm).D :=
 let a : List (I .i64) := x.1.1
 let b : List (I .i64) := x.1.2.1
 optF (none) (pontageref1_Cmp ((a, (b, ())), ())) fun y0 =>
 brn (@I.ltb .i64 (I.of .i64 0) y0.1.1)
  (some ((b, ()), ()))
  (some ((a, ()), ()))

/-- pontage/pontageref23.tip -/
noncomputable def pontageref23_tip (x : (⟨[.pl (.cons (.int .u64) (.cons (.int .u64) (.cons (.int .u64) (.cons (.arr 4 (.int .u64)) (.cons (.int .u64) (.cons (.arr 4 (.int .u64)) (.cons (.arr 4 (.int .u64)) (.cons (.int .u64) (.cons (.sl (.int .u8)) .nil))))))))), .pl (.arr 4 (.int .u64))], []⟩ : Tm).D) : Option (⟨[.pl (.sl (.int .i64))], []⟩ : Tm).D :=
 let a : (I .u64) × (I .u64) × (I .u64) × ((I .u64) × (I .u64) × (I .u64) × (I .u64) × Unit) × (I .u64) × ((I .u64) × (I .u64) × (I .u64) × (I .u64) × Unit) × ((I .u64) × (I .u64) × (I .u64) × (I .u64) × Unit) × (I .u64) × (List (I .u8)) × Unit := x.1.1
 let b : (I .u64) × (I .u64) × (I .u64) × (I .u64) × Unit := x.1.2.1
 optF (none) (pontageref1_FromUint256 ((a.2.2.2.2.2.2.1, ()), ())) fun y0 =>
 optF (none) (pontageref1_FromUint256 ((a.2.2.2.2.2.1, ()), ())) fun y1 =>
 optF (none) (pontageref1_FromUint256 ((b, ()), ())) fun y2 =>
 optF (none) (pontageref1_Sub ((y1.1.1, (y2.1.1, ())), ())) fun y3 =>
 optF (none) (pontageref1_Min ((y0.1.1, (y3.1.1, ())), ())) fun y4 =>
 some ((y4.1.1, ()), ())

/-- pontage/pontageref23.GasPrice -/
noncomputable def pontageref23_GasPrice (x : (⟨[.pl (.cons (.int .u64) (.cons (.int .u64) (.cons (.int .u64) (.cons (.arr 4 (.int .u64)) (.cons (.int .u64) (.cons (.arr 4 (.int .u64)) (.cons (.arr 4 (.int .u64)) (.cons (.int .u64) (.cons (.sl (.int .u8)) .nil))))))))), .pl (.arr 4 (.int .u64))], []⟩ : Tm).D) : Option (⟨[.pl (.arr 4 (.int .u64)), .pl (.int .i64)], []⟩ : Tm).D :=
 let a : (I .u64) × (I .u64) × (I .u64) × ((I .u64) × (I .u64) × (I .u64) × (I .u64) × Unit) × (I .u64) × ((I .u64) × (I .u64) × (I .u64) × (I .u64) × Unit) × ((I .u64) × (I .u64) × (I .u64) × (I .u64) × Unit) × (I .u64) × (List (I .u8)) × Unit := x.1.1
 let b : (I .u64) × (I .u64) × (I .u64) × (I .u64) × Unit := x.1.2.1
 optF (none) (pontageref1_FromUint256 ((a.2.2.2.2.2.1, ()), ())) fun y0 =>
 optF (none) (pontageref1_FromUint256 ((b, ()), ())) fun y1 =>
 optF (none) (pontageref1_Cmp ((y0.1.1, (y1.1.1, ())), ())) fun y2 =>
 brn (@I.ltb .i64 y2.1.1 (I.of .i64 0))
  (some ((((I.of .u64 0), ((I.of .u64 0), ((I.of .u64 0), ((I.of .u64 0), ())))), ((I.of .i64 12), ())), ()))
  (optF (none) (pontageref1_FromUint256 ((b, ()), ())) fun y3 =>
  optF (none) (pontageref23_tip ((a, (b, ())), ())) fun y4 =>
  optF (none) (pontageref1_Add ((y3.1.1, (y4.1.1, ())), ())) fun y5 =>
  optF (none) (pontageref1_Checked ((y5.1.1, ()), ())) fun y6 =>
  some ((y6.1.1, (y6.1.2.1, ())), ()))

/-- pontage/uint256.SaturatingMul -/
noncomputable def uint256_SaturatingMul (x : (⟨[.pl (.arr 4 (.int .u64)), .pl (.arr 4 (.int .u64))], []⟩ : Tm).D) : Option (⟨[.pl (.arr 4 (.int .u64))], []⟩ : Tm).D :=
 let a : (I .u64) × (I .u64) × (I .u64) × (I .u64) × Unit := x.1.1
 let b : (I .u64) × (I .u64) × (I .u64) × (I .u64) × Unit := x.1.2.1
 optF (none) (uint256_Mul ((a, (b, ())), ())) fun y0 =>
 brn (@I.eqb .i64 y0.1.2.1 (I.of .i64 0))
  (some ((y0.1.1, ()), ()))
  (optF (none) (uint256_maxValue ((), ())) fun y1 =>
  some ((y1.1.1, ()), ()))

/-- pontage/txfee.Covers -/
noncomputable def txfee_Covers (x : (⟨[.pl (.cons (.int .u64) (.cons (.int .u64) (.cons (.int .u64) (.cons (.arr 4 (.int .u64)) (.cons (.int .u64) (.cons (.arr 4 (.int .u64)) (.cons (.arr 4 (.int .u64)) (.cons (.int .u64) (.cons (.sl (.int .u8)) .nil))))))))), .pl (.arr 4 (.int .u64)), .pl (.arr 4 (.int .u64))], []⟩ : Tm).D) : Option (⟨[.pl .bool], []⟩ : Tm).D :=
 let a : (I .u64) × (I .u64) × (I .u64) × ((I .u64) × (I .u64) × (I .u64) × (I .u64) × Unit) × (I .u64) × ((I .u64) × (I .u64) × (I .u64) × (I .u64) × Unit) × ((I .u64) × (I .u64) × (I .u64) × (I .u64) × Unit) × (I .u64) × (List (I .u8)) × Unit := x.1.1
 let b : (I .u64) × (I .u64) × (I .u64) × (I .u64) × Unit := x.1.2.1
 let c : (I .u64) × (I .u64) × (I .u64) × (I .u64) × Unit := x.1.2.2.1
 optF (none) (uint256_FromUint64 ((a.2.2.2.2.1, ()), ())) fun y0 =>
 optF (none) (uint256_Mul ((y0.1.1, (b, ())), ())) fun y1 =>
 brn (@I.neb .i64 y1.1.2.1 (I.of .i64 0))
  (some ((false, ()), ()))
  (optF (none) (uint256_Add ((y1.1.1, (a.2.2.2.1, ())), ())) fun y2 =>
  brn (@I.eqb .i64 y2.1.2.1 (I.of .i64 0))
   (optF (none) (uint256_Cmp ((c, (y2.1.1, ())), ())) fun y3 =>
   some (((@I.leb .i64 (I.of .i64 0) y3.1.1), ()), ()))
   (some ((false, ()), ())))

/-- pontage/pontageref23.Covers -/
noncomputable def pontageref23_Covers (x : (⟨[.pl (.cons (.int .u64) (.cons (.int .u64) (.cons (.int .u64) (.cons (.arr 4 (.int .u64)) (.cons (.int .u64) (.cons (.arr 4 (.int .u64)) (.cons (.arr 4 (.int .u64)) (.cons (.int .u64) (.cons (.sl (.int .u8)) .nil))))))))), .pl (.arr 4 (.int .u64)), .pl (.arr 4 (.int .u64))], []⟩ : Tm).D) : Option (⟨[.pl .bool], []⟩ : Tm).D :=
 let a : (I .u64) × (I .u64) × (I .u64) × ((I .u64) × (I .u64) × (I .u64) × (I .u64) × Unit) × (I .u64) × ((I .u64) × (I .u64) × (I .u64) × (I .u64) × Unit) × ((I .u64) × (I .u64) × (I .u64) × (I .u64) × Unit) × (I .u64) × (List (I .u8)) × Unit := x.1.1
 let b : (I .u64) × (I .u64) × (I .u64) × (I .u64) × Unit := x.1.2.1
 let c : (I .u64) × (I .u64) × (I .u64) × (I .u64) × Unit := x.1.2.2.1
 optF (none) (pontageref1_FromUint64 ((a.2.2.2.2.1, ()), ())) fun y0 =>
 optF (none) (pontageref1_FromUint256 ((b, ()), ())) fun y1 =>
 optF (none) (pontageref1_Mul ((y0.1.1, (y1.1.1, ())), ())) fun y2 =>
 optF (none) (pontageref1_FromUint256 ((a.2.2.2.1, ()), ())) fun y3 =>
 optF (none) (pontageref1_Add ((y2.1.1, (y3.1.1, ())), ())) fun y4 =>
 optF (none) (pontageref1_FromUint256 ((c, ()), ())) fun y5 =>
 optF (none) (pontageref1_Cmp ((y5.1.1, (y4.1.1, ())), ())) fun y6 =>
 some (((@I.leb .i64 (I.of .i64 0) y6.1.1), ()), ())

/-- pontage/pontagelaw23.TxFeeGasPrice -/
noncomputable def pontagelaw23_TxFeeGasPrice (x : (⟨[.pl (.cons (.int .u64) (.cons (.int .u64) (.cons (.int .u64) (.cons (.arr 4 (.int .u64)) (.cons (.int .u64) (.cons (.arr 4 (.int .u64)) (.cons (.arr 4 (.int .u64)) (.cons (.int .u64) (.cons (.sl (.int .u8)) .nil))))))))), .pl (.arr 4 (.int .u64)), .pl (.arr 4 (.int .u64)), .pl (.cons (.int .u64) (.cons (.int .u64) (.cons (.int .u64) (.cons (.int .u64) (.cons (.int .u64) (.cons (.int .u64) (.cons (.int .i64) (.cons (.sl (.int .i64)) .nil)))))))), .pl (.int .u64)], []⟩ : Tm).D) : Option (⟨[.pl .bool], []⟩ : Tm).D :=
 let a : (I .u64) × (I .u64) × (I .u64) × ((I .u64) × (I .u64) × (I .u64) × (I .u64) × Unit) × (I .u64) × ((I .u64) × (I .u64) × (I .u64) × (I .u64) × Unit) × ((I .u64) × (I .u64) × (I .u64) × (I .u64) × Unit) × (I .u64) × (List (I .u8)) × Unit := x.1.1
 let b : (I .u64) × (I .u64) × (I .u64) × (I .u64) × Unit := x.1.2.1
 let c : (I .u64) × (I .u64) × (I .u64) × (I .u64) × Unit := x.1.2.2.1
 let d : (I .u64) × (I .u64) × (I .u64) × (I .u64) × (I .u64) × (I .u64) × (I .i64) × (List (I .i64)) × Unit := x.1.2.2.2.1
 let e : I .u64 := x.1.2.2.2.2.1
 jn (fun (x0 : (((I .u64) × Unit) × (((I .u64) × ((I .u64) × ((I .u64) × (((I .u64) × ((I .u64) × ((I .u64) × ((I .u64) × Unit)))) × ((I .u64) × (((I .u64) × ((I .u64) × ((I .u64) × ((I .u64) × Unit)))) × (((I .u64) × ((I .u64) × ((I .u64) × ((I .u64) × Unit)))) × ((I .u64) × ((List (I .u8)) × Unit))))))))) × (((I .u64) × ((I .u64) × ((I .u64) × ((I .u64) × Unit)))) × (((I .u64) × ((I .u64) × ((I .u64) × ((I .u64) × Unit)))) × (((I .u64) × ((I .u64) × ((I .u64) × ((I .u64) × ((I .u64) × ((I .u64) × ((I .i64) × ((List (I .i64)) × Unit)))))))) × Unit)))))) =>
   optF (none) (pontagelaw23_build ((x0.2.2.2.2.1, ()), ())) fun y1 =>
   optF (none) (txfee_GasPrice ((x0.2.1, (x0.2.2.1, ())), ())) fun y2 =>
   optF (none) (pontageref23_GasPrice ((x0.2.1, (x0.2.2.1, ())), ())) fun y3 =>
   optF (none) (txfee_GasPrice ((y1.1.1, (y1.1.2.1, ())), ())) fun y4 =>
   optF (none) (pontageref23_GasPrice ((y1.1.1, (y1.1.2.1, ())), ())) fun y5 =>
   jn (fun (x6 : (((I .u64) × Unit) × (((I .u64) × ((I .u64) × ((I .u64) × (((I .u64) × ((I .u64) × ((I .u64) × ((I .u64) × Unit)))) × ((I .u64) × (((I .u64) × ((I .u64) × ((I .u64) × ((I .u64) × Unit)))) × (((I .u64) × ((I .u64) × ((I .u64) × ((I .u64) × Unit)))) × ((I .u64) × ((List (I .u8)) × Unit))))))))) × (((I .u64) × ((I .u64) × ((I .u64) × ((I .u64) × Unit)))) × (((I .u64) × ((I .u64) × ((I .u64) × ((I .u64) × Unit)))) × (((I .u64) × ((I .u64) × ((I .u64) × (((I .u64) × ((I .u64) × ((I .u64) × ((I .u64) × Unit)))) × ((I .u64) × (((I .u64) × ((I .u64) × ((I .u64) × ((I .u64) × Unit)))) × (((I .u64) × ((I .u64) × ((I .u64) × ((I .u64) × Unit)))) × ((I .u64) × ((List (I .u8)) × Unit))))))))) × (((I .u64) × ((I .u64) × ((I .u64) × ((I .u64) × Unit)))) × Unit))))))) =>
     optF (none) (uint256_SaturatingMul (((x6.2.2.2.2.1.2.2.2.2.1, ((I.of .u64 0), ((I.of .u64 0), ((I.of .u64 0), ())))), (x6.2.2.2.2.2.1, ())), ())) fun y7 =>
     optF (none) (uint256_SaturatingAdd ((y7.1.1, (x6.2.2.2.2.1.2.2.2.1, ())), ())) fun y8 =>
     optF (none) (uint256_SaturatingSub ((y8.1.1, (((I.of .u64 1), ((I.of .u64 0), ((I.of .u64 0), ((I.of .u64 0), ())))), ())), ())) fun y9 =>
     iter (none) (fun x10 =>
       brn (@I.ltb .i64 x10.1.2.1 (I.of .i64 4))
        (brn (@inB .i64 x10.1.2.1 4)
         (optF (.done (none)) (txfee_Covers ((x10.2.2.2.1, (x10.2.2.2.2.1, ((@Arr.sel ((I .u64) × ((I .u64) × ((I .u64) × ((I .u64) × Unit)))) ((I.of .u64 0), ((I.of .u64 0), ((I.of .u64 0), ((I.of .u64 0), ())))) 4 x10.1.1 (@I.nat .i64 x10.1.2.1)), ()))), ())) fun y11 =>
         optF (.done (none)) (pontageref23_Covers ((x10.2.2.2.1, (x10.2.2.2.2.1, ((@Arr.sel ((I .u64) × ((I .u64) × ((I .u64) × ((I .u64) × Unit)))) ((I.of .u64 0), ((I.of .u64 0), ((I.of .u64 0), ((I.of .u64 0), ())))) 4 x10.1.1 (@I.nat .i64 x10.1.2.1)), ()))), ())) fun y12 =>
         brn (bnot (Ty.eqb .bool y11.1.1 y12.1.1))
          (.done (some ((false, ()), ())))
          (optF (.done (none)) (txfee_Covers ((x10.2.1, (x10.2.2.1, ((@Arr.sel ((I .u64) × ((I .u64) × ((I .u64) × ((I .u64) × Unit)))) ((I.of .u64 0), ((I.of .u64 0), ((I.of .u64 0), ((I.of .u64 0), ())))) 4 x10.1.1 (@I.nat .i64 x10.1.2.1)), ()))), ())) fun y13 =>
          optF (.done (none)) (pontageref23_Covers ((x10.2.1, (x10.2.2.1, ((@Arr.sel ((I .u64) × ((I .u64) × ((I .u64) × ((I .u64) × Unit)))) ((I.of .u64 0), ((I.of .u64 0), ((I.of .u64 0), ((I.of .u64 0), ())))) 4 x10.1.1 (@I.nat .i64 x10.1.2.1)), ()))), ())) fun y14 =>
          brn (bnot (Ty.eqb .bool y13.1.1 y14.1.1))
           (.done (some ((false, ()), ())))
           (.again ((x10.1.1, ((@I.add .i64 x10.1.2.1 (I.of .i64 1)), ())), (x10.2.1, (x10.2.2.1, (x10.2.2.2.1, (x10.2.2.2.2.1, ()))))))))
         (.done (none)))
        (.done (optF (none) (pontagelaw23_awake ((), ())) fun y11 =>
        some ((y11.1.1, ()), ()))))
     K0 (((x6.2.2.2.1, (y8.1.1, (y9.1.1, ((x6.1.1, ((I.of .u64 0), ((I.of .u64 0), ((I.of .u64 0), ())))), ())))), ((I.of .i64 0), ())), (x6.2.1, (x6.2.2.1, (x6.2.2.2.2.1, (x6.2.2.2.2.2.1, ())))))) fun j6 =>
   brn (bnot (Ty.eqb (.arr 4 (.int .u64)) y2.1.1 y3.1.1))
    (some ((false, ()), ()))
    (brn (@I.neb .i64 y2.1.2.1 y3.1.2.1)
     (some ((false, ()), ()))
     (brn (bnot (Ty.eqb (.arr 4 (.int .u64)) y4.1.1 y5.1.1))
      (some ((false, ()), ()))
      (brn (@I.neb .i64 y4.1.2.1 y5.1.2.1)
       (some ((false, ()), ()))
       (j6 ((x0.1.1, ()), (x0.2.1, (x0.2.2.1, (x0.2.2.2.1, (y1.1.1, (y5.1.1, ()))))))))))) fun j0 =>
 jn (fun (x1 : (((I .u64) × (Bool × Unit)) × (((I .u64) × ((I .u64) × ((I .u64) × (((I .u64) × ((I .u64) × ((I .u64) × ((I .u64) × Unit)))) × ((I .u64) × (((I .u64) × ((I .u64) × ((I .u64) × ((I .u64) × Unit)))) × (((I .u64) × ((I .u64) × ((I .u64) × ((I .u64) × Unit)))) × ((I .u64) × ((List (I .u8)) × Unit))))))))) × (((I .u64) × ((I .u64) × ((I .u64) × ((I .u64) × Unit)))) × (((I .u64) × ((I .u64) × ((I .u64) × ((I .u64) × Unit)))) × (((I .u64) × ((I .u64) × ((I .u64) × ((I .u64) × ((I .u64) × ((I .u64) × ((I .i64) × ((List (I .i64)) × Unit)))))))) × Unit)))))) =>
   brn x1.1.2.1
    (optF (none) (pontagelaw23_awake ((), ())) fun y2 =>
    some ((y2.1.1, ()), ()))
    (j0 ((x1.1.1, ()), (x1.2.1, (x1.2.2.1, (x1.2.2.2.1, (x1.2.2.2.2.1, ()))))))) fun j1 =>
 brn (@I.ltb .i64 (I.of .i64 20) (I.ofNat .i64 (@lenL (I .i64) d.2.2.2.2.2.2.2.1)))
  (j1 ((e, (true, ())), (a, (b, (c, (d, ()))))))
  (j1 ((e, ((@I.ltb .i64 (I.of .i64 600) (I.ofNat .i64 (@lenL (I .u8) a.2.2.2.2.2.2.2.2.1))), ())), (a, (b, (c, (d, ()))))))

end Sym

/- The given functions as plain functions, as the printer told them. -/
namespace Sym
open Go

noncomputable abbrev Z_U : U := ((I.of .u64 0), ((I.of .u64 0), ((I.of .u64 0), ((I.of .u64 0), ()))))
abbrev S_api_Poster : Type := (I .u64) × (U × (U × (U × (U × ((I .u64) × Unit)))))
noncomputable abbrev Z_S_api_Poster : S_api_Poster := ((I.of .u64 0), (Z_U, (Z_U, (Z_U, (Z_U, ((I.of .u64 0), ()))))))
abbrev S_debtqueue_item : Type := S_api_Poster × ((I .i64) × Unit)
noncomputable abbrev Z_S_debtqueue_item : S_debtqueue_item := (Z_S_api_Poster, ((I.of .i64 0), ()))

/-- (pontage/debtqueue.items).Len -/
noncomputable def debtqueue_items_Len (x : (⟨[.pl (.sl (.cons (.cons (.int .u64) (.cons (.arr 4 (.int .u64)) (.cons (.arr 4 (.int .u64)) (.cons (.arr 4 (.int .u64)) (.cons (.arr 4 (.int .u64)) (.cons (.int .u64) .nil)))))) (.cons (.int .i64) .nil)))], []⟩ : Tm).D) : Option (⟨[.pl (.int .i64)], []⟩ : Tm).D :=
 let a : (List S_debtqueue_item) := x.1.1
 some (((I.ofNat .i64 (@lenL S_debtqueue_item a)), ()), ())

/-- (pontage/debtqueue.items).Less -/
noncomputable def debtqueue_items_Less (x : (⟨[.pl (.sl (.cons (.cons (.int .u64) (.cons (.arr 4 (.int .u64)) (.cons (.arr 4 (.int .u64)) (.cons (.arr 4 (.int .u64)) (.cons (.arr 4 (.int .u64)) (.cons (.int .u64) .nil)))))) (.cons (.int .i64) .nil))), .pl (.int .i64), .pl (.int .i64)], []⟩ : Tm).D) : Option (⟨[.pl .bool], []⟩ : Tm).D :=
 let a : (List S_debtqueue_item) := x.1.1
 let b : (I .i64) := x.1.2.1
 let c : (I .i64) := x.1.2.2.1
 brn (@inB .i64 b (@lenL S_debtqueue_item a))
  (brn (@inB .i64 c (@lenL S_debtqueue_item a))
   (brn (@I.neb .u64 (@rdL S_debtqueue_item Z_S_debtqueue_item a (@I.nat .i64 b)).1.2.2.2.2.2.1 (@rdL S_debtqueue_item Z_S_debtqueue_item a (@I.nat .i64 c)).1.2.2.2.2.2.1)
    (some (((@I.ltb .u64 (@rdL S_debtqueue_item Z_S_debtqueue_item a (@I.nat .i64 b)).1.2.2.2.2.2.1 (@rdL S_debtqueue_item Z_S_debtqueue_item a (@I.nat .i64 c)).1.2.2.2.2.2.1), ()), ()))
    (brn (@I.neb .u64 (@rdL S_debtqueue_item Z_S_debtqueue_item a (@I.nat .i64 b)).1.1 (@rdL S_debtqueue_item Z_S_debtqueue_item a (@I.nat .i64 c)).1.1)
     (some (((@I.ltb .u64 (@rdL S_debtqueue_item Z_S_debtqueue_item a (@I.nat .i64 b)).1.1 (@rdL S_debtqueue_item Z_S_debtqueue_item a (@I.nat .i64 c)).1.1), ()), ()))
     (some (((@I.ltb .i64 (@rdL S_debtqueue_item Z_S_debtqueue_item a (@I.nat .i64 b)).2.1 (@rdL S_debtqueue_item Z_S_debtqueue_item a (@I.nat .i64 c)).2.1), ()), ()))))
   (none))
  (none)

/-- container/heap.Push -/
noncomputable def container_heap_Push (x : (⟨[.iface 85 (.ptr 0 [.fld 0]), .iface 87 (.pl (.cons (.cons (.int .u64) (.cons (.arr 4 (.int .u64)) (.cons (.arr 4 (.int .u64)) (.cons (.arr 4 (.int .u64)) (.cons (.arr 4 (.int .u64)) (.cons (.int .u64) .nil)))))) (.cons (.int .i64) .nil)))], [.box (.cons (.sl (.cons (.cons (.int .u64) (.cons (.arr 4 (.int .u64)) (.cons (.arr 4 (.int .u64)) (.cons (.arr 4 (.int .u64)) (.cons (.arr 4 (.int .u64)) (.cons (.int .u64) .nil)))))) (.cons (.int .i64) .nil))) .nil) (.pair (.whole 1) (.pl .nil)), .row (.cons (.cons (.int .u64) (.cons (.arr 4 (.int .u64)) (.cons (.arr 4 (.int .u64)) (.cons (.arr 4 (.int .u64)) (.cons (.arr 4 (.int .u64)) (.cons (.int .u64) .nil)))))) (.cons (.int .i64) .nil))]⟩ : Tm).D) : Option (⟨[], [.box (.cons (.sl (.cons (.cons (.int .u64) (.cons (.arr 4 (.int .u64)) (.cons (.arr 4 (.int .u64)) (.cons (.arr 4 (.int .u64)) (.cons (.arr 4 (.int .u64)) (.cons (.int .u64) .nil)))))) (.cons (.int .i64) .nil))) .nil) (.pair (.whole 1) (.pl .nil)), .row (.cons (.cons (.int .u64) (.cons (.arr 4 (.int .u64)) (.cons (.arr 4 (.int .u64)) (.cons (.arr 4 (.int .u64)) (.cons (.arr 4 (.int .u64)) (.cons (.int .u64) .nil)))))) (.cons (.int .i64) .nil))]⟩ : Tm).D :=
 let b : S_debtqueue_item := x.1.2.1
 let h0 : (Unit × Unit) := x.2.1
 let h1 : (List S_debtqueue_item) := x.2.2.1
 brn (fitsLen (@lenL S_debtqueue_item (@appL S_debtqueue_item h1 (b :: []))))
  (optF (none) (debtqueue_items_Len (((@appL S_debtqueue_item h1 (b :: [])), ()), ())) fun y0 =>
  iter (none) (fun x1 =>
    brn (@I.eqb .i64 (@I.quo .i64 (@I.sub .i64 x1.1.2.1 (I.of .i64 1)) (I.of .i64 2)) x1.1.2.1)
     (.done (some ((), (((), x1.2.1.2), (x1.2.2.1, ())))))
     (optF (.done (none)) (debtqueue_items_Less ((x1.2.2.1, (x1.1.2.1, ((@I.quo .i64 (@I.sub .i64 x1.1.2.1 (I.of .i64 1)) (I.of .i64 2)), ()))), ())) fun y2 =>
     brn (bnot y2.1.1)
      (.done (some ((), (((), x1.2.1.2), (x1.2.2.1, ())))))
      (brn (@inB .i64 x1.1.2.1 (@lenL S_debtqueue_item x1.2.2.1))
       (brn (@inB .i64 (@I.quo .i64 (@I.sub .i64 x1.1.2.1 (I.of .i64 1)) (I.of .i64 2)) (@lenL S_debtqueue_item x1.2.2.1))
        (brn (@inB .i64 (@I.quo .i64 (@I.sub .i64 x1.1.2.1 (I.of .i64 1)) (I.of .i64 2)) (@lenL S_debtqueue_item x1.2.2.1))
         (brn (@inB .i64 x1.1.2.1 (@lenL S_debtqueue_item (@setL S_debtqueue_item x1.2.2.1 (@I.nat .i64 (@I.quo .i64 (@I.sub .i64 x1.1.2.1 (I.of .i64 1)) (I.of .i64 2))) (@rdL S_debtqueue_item Z_S_debtqueue_item x1.2.2.1 (@I.nat .i64 x1.1.2.1)))))
          (.again (((), ((@I.quo .i64 (@I.sub .i64 x1.1.2.1 (I.of .i64 1)) (I.of .i64 2)), ())), (((), x1.2.1.2), ((@setL S_debtqueue_item (@setL S_debtqueue_item x1.2.2.1 (@I.nat .i64 (@I.quo .i64 (@I.sub .i64 x1.1.2.1 (I.of .i64 1)) (I.of .i64 2))) (@rdL S_debtqueue_item Z_S_debtqueue_item x1.2.2.1 (@I.nat .i64 x1.1.2.1))) (@I.nat .i64 x1.1.2.1) (@rdL S_debtqueue_item Z_S_debtqueue_item x1.2.2.1 (@I.nat .i64 (@I.quo .i64 (@I.sub .i64 x1.1.2.1 (I.of .i64 1)) (I.of .i64 2))))), ()))))
          (.done (none)))
         (.done (none)))
        (.done (none)))
       (.done (none)))))
  K0 (((), ((@I.sub .i64 y0.1.1 (I.of .i64 1)), ())), (((), h0.2), ((@appL S_debtqueue_item h1 (b :: [])), ()))))
  (none)

/-- pontage/debtqueue.New -/
noncomputable def debtqueue_New (x : (⟨[.pl (.sl (.cons (.int .u64) (.cons (.arr 4 (.int .u64)) (.cons (.arr 4 (.int .u64)) (.cons (.arr 4 (.int .u64)) (.cons (.arr 4 (.int .u64)) (.cons (.int .u64) .nil)))))))], []⟩ : Tm).D) : Option (⟨[.ptr 0 []], [.box (.cons (.sl (.cons (.cons (.int .u64) (.cons (.arr 4 (.int .u64)) (.cons (.arr 4 (.int .u64)) (.cons (.arr 4 (.int .u64)) (.cons (.arr 4 (.int .u64)) (.cons (.int .u64) .nil)))))) (.cons (.int .i64) .nil))) .nil) (.pair (.whole 1) (.pl .nil)), .row (.cons (.cons (.int .u64) (.cons (.arr 4 (.int .u64)) (.cons (.arr 4 (.int .u64)) (.cons (.arr 4 (.int .u64)) (.cons (.arr 4 (.int .u64)) (.cons (.int .u64) .nil)))))) (.cons (.int .i64) .nil))]⟩ : Tm).D :=
 let a : (List S_api_Poster) := x.1.1
 iter (none) (fun x0 =>
   brn (@I.ltb .i64 x0.1.2.2.1 x0.1.2.1)
    (brn (@inB .i64 x0.1.2.2.1 (@lenL S_api_Poster x0.1.1))
     (brn (bnot (Ty.eqb (.arr 4 (.int .u64)) (@rdL S_api_Poster Z_S_api_Poster x0.1.1 (@I.nat .i64 x0.1.2.2.1)).2.1 Z_U))
      (optF (.done (none)) (container_heap_Push (((), (((@rdL S_api_Poster Z_S_api_Poster x0.1.1 (@I.nat .i64 x0.1.2.2.1)), (x0.1.2.2.1, ())), ())), (((), x0.2.1.2), (x0.2.2.1, ())))) fun y1 =>
      .again ((x0.1.1, (x0.1.2.1, ((@I.add .i64 x0.1.2.2.1 (I.of .i64 1)), ()))), (((), y1.2.1.2), (y1.2.2.1, ()))))
      (.again ((x0.1.1, (x0.1.2.1, ((@I.add .i64 x0.1.2.2.1 (I.of .i64 1)), ()))), (((), x0.2.1.2), (x0.2.2.1, ())))))
     (.done (none)))
    (.done (some ((), (((), x0.2.1.2), (x0.2.2.1, ()))))))
 K0 ((a, ((I.ofNat .i64 (@lenL S_api_Poster a)), ((I.of .i64 0), ()))), (((), ()), ([], ())))

/-- (*pontage/debtqueue.Queue).Len -/
noncomputable def debtqueue_Queue_Len (x : (⟨[.ptr 0 []], [.box (.cons (.sl (.cons (.cons (.int .u64) (.cons (.arr 4 (.int .u64)) (.cons (.arr 4 (.int .u64)) (.cons (.arr 4 (.int .u64)) (.cons (.arr 4 (.int .u64)) (.cons (.int .u64) .nil)))))) (.cons (.int .i64) .nil))) .nil) (.pair (.whole 1) (.pl .nil)), .row (.cons (.cons (.int .u64) (.cons (.arr 4 (.int .u64)) (.cons (.arr 4 (.int .u64)) (.cons (.arr 4 (.int .u64)) (.cons (.arr 4 (.int .u64)) (.cons (.int .u64) .nil)))))) (.cons (.int .i64) .nil))]⟩ : Tm).D) : Option (⟨[.pl (.int .i64)], [.box (.cons (.sl (.cons (.cons (.int .u64) (.cons (.arr 4 (.int .u64)) (.cons (.arr 4 (.int .u64)) (.cons (.arr 4 (.int .u64)) (.cons (.arr 4 (.int .u64)) (.cons (.int .u64) .nil)))))) (.cons (.int .i64) .nil))) .nil) (.pair (.whole 1) (.pl .nil)), .row (.cons (.cons (.int .u64) (.cons (.arr 4 (.int .u64)) (.cons (.arr 4 (.int .u64)) (.cons (.arr 4 (.int .u64)) (.cons (.arr 4 (.int .u64)) (.cons (.int .u64) .nil)))))) (.cons (.int .i64) .nil))]⟩ : Tm).D :=
 let h0 : (Unit × Unit) := x.2.1
 let h1 : (List S_debtqueue_item) := x.2.2.1
 some (((I.ofNat .i64 (@lenL S_debtqueue_item h1)), ()), (((), h0.2), (h1, ())))

/-- (*pontage/debtqueue.Queue).Peek -/
noncomputable def debtqueue_Queue_Peek (x : (⟨[.ptr 0 []], [.box (.cons (.sl (.cons (.cons (.int .u64) (.cons (.arr 4 (.int .u64)) (.cons (.arr 4 (.int .u64)) (.cons (.arr 4 (.int .u64)) (.cons (.arr 4 (.int .u64)) (.cons (.int .u64) .nil)))))) (.cons (.int .i64) .nil))) .nil) (.pair (.whole 1) (.pl .nil)), .row (.cons (.cons (.int .u64) (.cons (.arr 4 (.int .u64)) (.cons (.arr 4 (.int .u64)) (.cons (.arr 4 (.int .u64)) (.cons (.arr 4 (.int .u64)) (.cons (.int .u64) .nil)))))) (.cons (.int .i64) .nil))]⟩ : Tm).D) : Option (⟨[.pl (.cons (.int .u64) (.cons (.arr 4 (.int .u64)) (.cons (.arr 4 (.int .u64)) (.cons (.arr 4 (.int .u64)) (.cons (.arr 4 (.int .u64)) (.cons (.int .u64) .nil)))))), .pl .bool], [.box (.cons (.sl (.cons (.cons (.int .u64) (.cons (.arr 4 (.int .u64)) (.cons (.arr 4 (.int .u64)) (.cons (.arr 4 (.int .u64)) (.cons (.arr 4 (.int .u64)) (.cons (.int .u64) .nil)))))) (.cons (.int .i64) .nil))) .nil) (.pair (.whole 1) (.pl .nil)), .row (.cons (.cons (.int .u64) (.cons (.arr 4 (.int .u64)) (.cons (.arr 4 (.int .u64)) (.cons (.arr 4 (.int .u64)) (.cons (.arr 4 (.int .u64)) (.cons (.int .u64) .nil)))))) (.cons (.int .i64) .nil))]⟩ : Tm).D :=
 let h0 : (Unit × Unit) := x.2.1
 let h1 : (List S_debtqueue_item) := x.2.2.1
 optF (none) (debtqueue_Queue_Len ((), (((), h0.2), (h1, ())))) fun y0 =>
 brn (@I.eqb .i64 y0.1.1 (I.of .i64 0))
  (some ((Z_S_api_Poster, (false, ())), (((), y0.2.1.2), (y0.2.2.1, ()))))
  (brn (@inB .i64 (I.of .i64 0) (@lenL S_debtqueue_item y0.2.2.1))
   (some (((@rdL S_debtqueue_item Z_S_debtqueue_item y0.2.2.1 0).1, (true, ())), (((), y0.2.1.2), (y0.2.2.1, ()))))
   (none))

/-- (*pontage/debtqueue.Queue).Pop -/
noncomputable def debtqueue_Queue_Pop (x : (⟨[.ptr 0 []], [.box (.cons (.sl (.cons (.cons (.int .u64) (.cons (.arr 4 (.int .u64)) (.cons (.arr 4 (.int .u64)) (.cons (.arr 4 (.int .u64)) (.cons (.arr 4 (.int .u64)) (.cons (.int .u64) .nil)))))) (.cons (.int .i64) .nil))) .nil) (.pair (.whole 1) (.pl .nil)), .row (.cons (.cons (.int .u64) (.cons (.arr 4 (.int .u64)) (.cons (.arr 4 (.int .u64)) (.cons (.arr 4 (.int .u64)) (.cons (.arr 4 (.int .u64)) (.cons (.int .u64) .nil)))))) (.cons (.int .i64) .nil))]⟩ : Tm).D) : Option (⟨[.pl (.cons (.int .u64) (.cons (.arr 4 (.int .u64)) (.cons (.arr 4 (.int .u64)) (.cons (.arr 4 (.int .u64)) (.cons (.arr 4 (.int .u64)) (.cons (.int .u64) .nil)))))), .pl .bool], [.box (.cons (.sl (.cons (.cons (.int .u64) (.cons (.arr 4 (.int .u64)) (.cons (.arr 4 (.int .u64)) (.cons (.arr 4 (.int .u64)) (.cons (.arr 4 (.int .u64)) (.cons (.int .u64) .nil)))))) (.cons (.int .i64) .nil))) .nil) (.pair (.whole 1) (.pl .nil)), .row (.cons (.cons (.int .u64) (.cons (.arr 4 (.int .u64)) (.cons (.arr 4 (.int .u64)) (.cons (.arr 4 (.int .u64)) (.cons (.arr 4 (.int .u64)) (.cons (.int .u64) .nil)))))) (.cons (.int .i64) .nil))]⟩ : Tm).D :=
 let h0 : (Unit × Unit) := x.2.1
 let h1 : (List S_debtqueue_item) := x.2.2.1
 optF (none) (debtqueue_Queue_Peek ((), (((), h0.2), (h1, ())))) fun y0 =>
 brn y0.1.2.1
  (optF (none) (debtqueue_items_Len ((y0.2.2.1, ()), ())) fun y1 =>
  brn (@inB .i64 (@I.sub .i64 y1.1.1 (I.of .i64 1)) (@lenL S_debtqueue_item y0.2.2.1))
   (brn (@inB .i64 (I.of .i64 0) (@lenL S_debtqueue_item y0.2.2.1))
    (brn (@inB .i64 (I.of .i64 0) (@lenL S_debtqueue_item y0.2.2.1))
     (brn (@inB .i64 (@I.sub .i64 y1.1.1 (I.of .i64 1)) (@lenL S_debtqueue_item (@setL S_debtqueue_item y0.2.2.1 0 (@rdL S_debtqueue_item Z_S_debtqueue_item y0.2.2.1 (@I.nat .i64 (@I.sub .i64 y1.1.1 (I.of .i64 1)))))))
      (iter (none) (fun x2 =>
        brn (@I.leb .i64 x2.1.2.2.1 (@I.add .i64 (@I.mul .i64 (I.of .i64 2) x2.1.2.2.2.1) (I.of .i64 1)))
         (.done (brn (@inB .i64 (@I.sub .i64 (I.ofNat .i64 (@lenL S_debtqueue_item x2.2.2.1)) (I.of .i64 1)) (@lenL S_debtqueue_item x2.2.2.1))
          (brn (@inB' .i64 (@I.sub .i64 (I.ofNat .i64 (@lenL S_debtqueue_item x2.2.2.1)) (I.of .i64 1)) (@lenL S_debtqueue_item x2.2.2.1))
           (some ((x2.2.2.2.2.1, (x2.1.2.2.2.2.2.1, ())), (((), x2.2.1.2), ((@subL S_debtqueue_item x2.2.2.1 0 (@I.nat .i64 (@I.sub .i64 (I.ofNat .i64 (@lenL S_debtqueue_item x2.2.2.1)) (I.of .i64 1)))), ()))))
           (none))
          (none)))
         (brn (@I.ltb .i64 (@I.add .i64 (@I.mul .i64 (I.of .i64 2) x2.1.2.2.2.1) (I.of .i64 1)) (I.of .i64 0))
          (.done (brn (@inB .i64 (@I.sub .i64 (I.ofNat .i64 (@lenL S_debtqueue_item x2.2.2.1)) (I.of .i64 1)) (@lenL S_debtqueue_item x2.2.2.1))
           (brn (@inB' .i64 (@I.sub .i64 (I.ofNat .i64 (@lenL S_debtqueue_item x2.2.2.1)) (I.of .i64 1)) (@lenL S_debtqueue_item x2.2.2.1))
            (some ((x2.2.2.2.2.1, (x2.1.2.2.2.2.2.1, ())), (((), x2.2.1.2), ((@subL S_debtqueue_item x2.2.2.1 0 (@I.nat .i64 (@I.sub .i64 (I.ofNat .i64 (@lenL S_debtqueue_item x2.2.2.1)) (I.of .i64 1)))), ()))))
            (none))
           (none)))
          (brn (@I.ltb .i64 (@I.add .i64 (@I.add .i64 (@I.mul .i64 (I.of .i64 2) x2.1.2.2.2.1) (I.of .i64 1)) (I.of .i64 1)) x2.1.2.2.1)
           (optF (.done (none)) (debtqueue_items_Less ((x2.2.2.1, ((@I.add .i64 (@I.add .i64 (@I.mul .i64 (I.of .i64 2) x2.1.2.2.2.1) (I.of .i64 1)) (I.of .i64 1)), ((@I.add .i64 (@I.mul .i64 (I.of .i64 2) x2.1.2.2.2.1) (I.of .i64 1)), ()))), ())) fun y3 =>
           brn y3.1.1
            (optF (.done (none)) (debtqueue_items_Less ((x2.2.2.1, ((@I.add .i64 (@I.add .i64 (@I.mul .i64 (I.of .i64 2) x2.1.2.2.2.1) (I.of .i64 1)) (I.of .i64 1)), (x2.1.2.2.2.1, ()))), ())) fun y4 =>
            brn (bnot y4.1.1)
             (.done (brn (@inB .i64 (@I.sub .i64 (I.ofNat .i64 (@lenL S_debtqueue_item x2.2.2.1)) (I.of .i64 1)) (@lenL S_debtqueue_item x2.2.2.1))
              (brn (@inB' .i64 (@I.sub .i64 (I.ofNat .i64 (@lenL S_debtqueue_item x2.2.2.1)) (I.of .i64 1)) (@lenL S_debtqueue_item x2.2.2.1))
               (some ((x2.2.2.2.2.1, (x2.1.2.2.2.2.2.1, ())), (((), x2.2.1.2), ((@subL S_debtqueue_item x2.2.2.1 0 (@I.nat .i64 (@I.sub .i64 (I.ofNat .i64 (@lenL S_debtqueue_item x2.2.2.1)) (I.of .i64 1)))), ()))))
               (none))
              (none)))
             (brn (@inB .i64 (@I.add .i64 (@I.add .i64 (@I.mul .i64 (I.of .i64 2) x2.1.2.2.2.1) (I.of .i64 1)) (I.of .i64 1)) (@lenL S_debtqueue_item x2.2.2.1))
              (brn (@inB .i64 x2.1.2.2.2.1 (@lenL S_debtqueue_item x2.2.2.1))
               (brn (@inB .i64 x2.1.2.2.2.1 (@lenL S_debtqueue_item x2.2.2.1))
                (brn (@inB .i64 (@I.add .i64 (@I.add .i64 (@I.mul .i64 (I.of .i64 2) x2.1.2.2.2.1) (I.of .i64 1)) (I.of .i64 1)) (@lenL S_debtqueue_item (@setL S_debtqueue_item x2.2.2.1 (@I.nat .i64 x2.1.2.2.2.1) (@rdL S_debtqueue_item Z_S_debtqueue_item x2.2.2.1 (@I.nat .i64 (@I.add .i64 (@I.add .i64 (@I.mul .i64 (I.of .i64 2) x2.1.2.2.2.1) (I.of .i64 1)) (I.of .i64 1)))))))
                 (.again (((), (x2.1.2.1, (x2.1.2.2.1, ((@I.add .i64 (@I.add .i64 (@I.mul .i64 (I.of .i64 2) x2.1.2.2.2.1) (I.of .i64 1)) (I.of .i64 1)), ((), (x2.1.2.2.2.2.2.1, ())))))), (((), x2.2.1.2), ((@setL S_debtqueue_item (@setL S_debtqueue_item x2.2.2.1 (@I.nat .i64 x2.1.2.2.2.1) (@rdL S_debtqueue_item Z_S_debtqueue_item x2.2.2.1 (@I.nat .i64 (@I.add .i64 (@I.add .i64 (@I.mul .i64 (I.of .i64 2) x2.1.2.2.2.1) (I.of .i64 1)) (I.of .i64 1))))) (@I.nat .i64 (@I.add .i64 (@I.add .i64 (@I.mul .i64 (I.of .i64 2) x2.1.2.2.2.1) (I.of .i64 1)) (I.of .i64 1))) (@rdL S_debtqueue_item Z_S_debtqueue_item x2.2.2.1 (@I.nat .i64 x2.1.2.2.2.1))), (x2.2.2.2.1, (x2.2.2.2.2.1, ()))))))
                 (.done (none)))
                (.done (none)))
               (.done (none)))
              (.done (none))))
            (optF (.done (none)) (debtqueue_items_Less ((x2.2.2.1, ((@I.add .i64 (@I.mul .i64 (I.of .i64 2) x2.1.2.2.2.1) (I.of .i64 1)), (x2.1.2.2.2.1, ()))), ())) fun y4 =>
            brn (bnot y4.1.1)
             (.done (brn (@inB .i64 (@I.sub .i64 (I.ofNat .i64 (@lenL S_debtqueue_item x2.2.2.1)) (I.of .i64 1)) (@lenL S_debtqueue_item x2.2.2.1))
              (brn (@inB' .i64 (@I.sub .i64 (I.ofNat .i64 (@lenL S_debtqueue_item x2.2.2.1)) (I.of .i64 1)) (@lenL S_debtqueue_item x2.2.2.1))
               (some ((x2.2.2.2.2.1, (x2.1.2.2.2.2.2.1, ())), (((), x2.2.1.2), ((@subL S_debtqueue_item x2.2.2.1 0 (@I.nat .i64 (@I.sub .i64 (I.ofNat .i64 (@lenL S_debtqueue_item x2.2.2.1)) (I.of .i64 1)))), ()))))
               (none))
              (none)))
             (brn (@inB .i64 (@I.add .i64 (@I.mul .i64 (I.of .i64 2) x2.1.2.2.2.1) (I.of .i64 1)) (@lenL S_debtqueue_item x2.2.2.1))
              (brn (@inB .i64 x2.1.2.2.2.1 (@lenL S_debtqueue_item x2.2.2.1))
               (brn (@inB .i64 x2.1.2.2.2.1 (@lenL S_debtqueue_item x2.2.2.1))
                (brn (@inB .i64 (@I.add .i64 (@I.mul .i64 (I.of .i64 2) x2.1.2.2.2.1) (I.of .i64 1)) (@lenL S_debtqueue_item (@setL S_debtqueue_item x2.2.2.1 (@I.nat .i64 x2.1.2.2.2.1) (@rdL S_debtqueue_item Z_S_debtqueue_item x2.2.2.1 (@I.nat .i64 (@I.add .i64 (@I.mul .i64 (I.of .i64 2) x2.1.2.2.2.1) (I.of .i64 1)))))))
                 (.again (((), (x2.1.2.1, (x2.1.2.2.1, ((@I.add .i64 (@I.mul .i64 (I.of .i64 2) x2.1.2.2.2.1) (I.of .i64 1)), ((), (x2.1.2.2.2.2.2.1, ())))))), (((), x2.2.1.2), ((@setL S_debtqueue_item (@setL S_debtqueue_item x2.2.2.1 (@I.nat .i64 x2.1.2.2.2.1) (@rdL S_debtqueue_item Z_S_debtqueue_item x2.2.2.1 (@I.nat .i64 (@I.add .i64 (@I.mul .i64 (I.of .i64 2) x2.1.2.2.2.1) (I.of .i64 1))))) (@I.nat .i64 (@I.add .i64 (@I.mul .i64 (I.of .i64 2) x2.1.2.2.2.1) (I.of .i64 1))) (@rdL S_debtqueue_item Z_S_debtqueue_item x2.2.2.1 (@I.nat .i64 x2.1.2.2.2.1))), (x2.2.2.2.1, (x2.2.2.2.2.1, ()))))))
                 (.done (none)))
                (.done (none)))
               (.done (none)))
              (.done (none)))))
           (optF (.done (none)) (debtqueue_items_Less ((x2.2.2.1, ((@I.add .i64 (@I.mul .i64 (I.of .i64 2) x2.1.2.2.2.1) (I.of .i64 1)), (x2.1.2.2.2.1, ()))), ())) fun y3 =>
           brn (bnot y3.1.1)
            (.done (brn (@inB .i64 (@I.sub .i64 (I.ofNat .i64 (@lenL S_debtqueue_item x2.2.2.1)) (I.of .i64 1)) (@lenL S_debtqueue_item x2.2.2.1))
             (brn (@inB' .i64 (@I.sub .i64 (I.ofNat .i64 (@lenL S_debtqueue_item x2.2.2.1)) (I.of .i64 1)) (@lenL S_debtqueue_item x2.2.2.1))
              (some ((x2.2.2.2.2.1, (x2.1.2.2.2.2.2.1, ())), (((), x2.2.1.2), ((@subL S_debtqueue_item x2.2.2.1 0 (@I.nat .i64 (@I.sub .i64 (I.ofNat .i64 (@lenL S_debtqueue_item x2.2.2.1)) (I.of .i64 1)))), ()))))
              (none))
             (none)))
            (brn (@inB .i64 (@I.add .i64 (@I.mul .i64 (I.of .i64 2) x2.1.2.2.2.1) (I.of .i64 1)) (@lenL S_debtqueue_item x2.2.2.1))
             (brn (@inB .i64 x2.1.2.2.2.1 (@lenL S_debtqueue_item x2.2.2.1))
              (brn (@inB .i64 x2.1.2.2.2.1 (@lenL S_debtqueue_item x2.2.2.1))
               (brn (@inB .i64 (@I.add .i64 (@I.mul .i64 (I.of .i64 2) x2.1.2.2.2.1) (I.of .i64 1)) (@lenL S_debtqueue_item (@setL S_debtqueue_item x2.2.2.1 (@I.nat .i64 x2.1.2.2.2.1) (@rdL S_debtqueue_item Z_S_debtqueue_item x2.2.2.1 (@I.nat .i64 (@I.add .i64 (@I.mul .i64 (I.of .i64 2) x2.1.2.2.2.1) (I.of .i64 1)))))))
                (.again (((), (x2.1.2.1, (x2.1.2.2.1, ((@I.add .i64 (@I.mul .i64 (I.of .i64 2) x2.1.2.2.2.1) (I.of .i64 1)), ((), (x2.1.2.2.2.2.2.1, ())))))), (((), x2.2.1.2), ((@setL S_debtqueue_item (@setL S_debtqueue_item x2.2.2.1 (@I.nat .i64 x2.1.2.2.2.1) (@rdL S_debtqueue_item Z_S_debtqueue_item x2.2.2.1 (@I.nat .i64 (@I.add .i64 (@I.mul .i64 (I.of .i64 2) x2.1.2.2.2.1) (I.of .i64 1))))) (@I.nat .i64 (@I.add .i64 (@I.mul .i64 (I.of .i64 2) x2.1.2.2.2.1) (I.of .i64 1))) (@rdL S_debtqueue_item Z_S_debtqueue_item x2.2.2.1 (@I.nat .i64 x2.1.2.2.2.1))), (x2.2.2.2.1, (x2.2.2.2.2.1, ()))))))
                (.done (none)))
               (.done (none)))
              (.done (none)))
             (.done (none)))))))
      K0 (((), ((I.of .i64 0), ((@I.sub .i64 y1.1.1 (I.of .i64 1)), ((I.of .i64 0), ((), (y0.1.2.1, ())))))), (((), y0.2.1.2), ((@setL S_debtqueue_item (@setL S_debtqueue_item y0.2.2.1 0 (@rdL S_debtqueue_item Z_S_debtqueue_item y0.2.2.1 (@I.nat .i64 (@I.sub .i64 y1.1.1 (I.of .i64 1))))) (@I.nat .i64 (@I.sub .i64 y1.1.1 (I.of .i64 1))) (@rdL S_debtqueue_item Z_S_debtqueue_item y0.2.2.1 0)), (Z_S_api_Poster, (y0.1.1, ()))))))
      (none))
     (none))
    (none))
   (none))
  (some ((y0.1.1, (y0.1.2.1, ())), (((), y0.2.1.2), (y0.2.2.1, ()))))

/-- pontage/debtqueue.Order -/
noncomputable def debtqueue_Order (x : (⟨[.pl (.sl (.cons (.int .u64) (.cons (.arr 4 (.int .u64)) (.cons (.arr 4 (.int .u64)) (.cons (.arr 4 (.int .u64)) (.cons (.arr 4 (.int .u64)) (.cons (.int .u64) .nil)))))))], []⟩ : Tm).D) : Option (⟨[.pl (.sl (.int .u64))], []⟩ : Tm).D :=
 let a : (List S_api_Poster) := x.1.1
 optF (none) (debtqueue_New ((a, ()), ())) fun y0 =>
 optF (none) (debtqueue_Queue_Pop ((), (((), y0.2.1.2), (y0.2.2.1, ())))) fun y1 =>
 iter (none) (fun x2 =>
   brn x2.1.1
    (brn (fitsLen (@lenL (I .u64) (@appL (I .u64) x2.2.1 (x2.2.2.2.2.1.1 :: []))))
     (optF (.done (none)) (debtqueue_Queue_Pop ((), (((), x2.2.2.1.2), (x2.2.2.2.1, ())))) fun y3 =>
     .again ((y3.1.2.1, ()), ((@appL (I .u64) x2.2.1 (x2.2.2.2.2.1.1 :: [])), (((), y3.2.1.2), (y3.2.2.1, (y3.1.1, ()))))))
     (.done (none)))
    (.done (some ((x2.2.1, ()), ()))))
 K0 ((y1.1.2.1, ()), ([], (((), y1.2.1.2), (y1.2.2.1, (y1.1.1, ())))))

/-- pontage/pontagelaw17.awake -/
noncomputable def pontagelaw17_awake (x : (⟨[], []⟩ : Tm).D) : Option (⟨[.pl .bool], []⟩ : Tm).D :=
 optF (none) (debtqueue_Order (((((I.of .u64 5), (((I.of .u64 1), ((I.of .u64 0), ((I.of .u64 0), ((I.of .u64 0), ())))), (Z_U, (Z_U, (Z_U, ((I.of .u64 3), ())))))) :: (((I.of .u64 6), (((I.of .u64 1), ((I.of .u64 0), ((I.of .u64 0), ((I.of .u64 0), ())))), (Z_U, (Z_U, (Z_U, ((I.of .u64 2), ())))))) :: (((I.of .u64 7), (Z_U, (Z_U, (Z_U, (Z_U, ((I.of .u64 0), ())))))) :: []))), ()), ())) fun y0 =>
 brn (@I.eqb .i64 (I.ofNat .i64 (@lenL (I .u64) y0.1.1)) (I.of .i64 2))
  (brn (@inB .i64 (I.of .i64 0) (@lenL (I .u64) y0.1.1))
   (brn (@I.eqb .u64 (@rdL (I .u64) (I.of .u64 0) y0.1.1 0) (I.of .u64 6))
    (brn (@inB .i64 (I.of .i64 1) (@lenL (I .u64) y0.1.1))
     (some (((@I.eqb .u64 (@rdL (I .u64) (I.of .u64 0) y0.1.1 1) (I.of .u64 5)), ()), ()))
     (none))
    (some ((false, ()), ())))
   (none))
  (some ((false, ()), ()))

/-- pontage/pontagelaw17.collide -/
noncomputable def pontagelaw17_collide (x : (⟨[.pl (.sl (.cons (.int .u64) (.cons (.arr 4 (.int .u64)) (.cons (.arr 4 (.int .u64)) (.cons (.arr 4 (.int .u64)) (.cons (.arr 4 (.int .u64)) (.cons (.int .u64) .nil))))))), .pl (.int .i64)], []⟩ : Tm).D) : Option (⟨[.pl (.sl (.cons (.int .u64) (.cons (.arr 4 (.int .u64)) (.cons (.arr 4 (.int .u64)) (.cons (.arr 4 (.int .u64)) (.cons (.arr 4 (.int .u64)) (.cons (.int .u64) .nil)))))))], []⟩ : Tm).D :=
 let a : (List S_api_Poster) := x.1.1
 let b : (I .i64) := x.1.2.1
 brn (fitsLen (@lenL S_api_Poster (@appL S_api_Poster [] a)))
  (iter (none) (fun x0 =>
    brn (@I.ltb .i64 x0.1.2.1 (I.ofNat .i64 (@lenL S_api_Poster x0.2.1)))
     (jn (fun (x1 : (((I .i64) × ((I .i64) × Unit)) × ((List S_api_Poster) × Unit))) =>
       brn (@I.ltb .i64 (I.of .i64 0) (@I.rem .i64 x1.1.1 (I.of .i64 2)))
        (brn (@I.eqb .i64 (@I.rem .i64 x1.1.2.1 (I.of .i64 4)) (I.of .i64 1))
         (brn (@inB .i64 x1.1.2.1 (@lenL S_api_Poster x1.2.1))
          (.again ((x1.1.1, ((@I.add .i64 x1.1.2.1 (I.of .i64 1)), ())), ((@setL S_api_Poster x1.2.1 (@I.nat .i64 x1.1.2.1) ((@rdL S_api_Poster Z_S_api_Poster x1.2.1 (@I.nat .i64 x1.1.2.1)).1, (Z_U, (@rdL S_api_Poster Z_S_api_Poster x1.2.1 (@I.nat .i64 x1.1.2.1)).2.2))), ())))
          (.done (none)))
         (.again ((x1.1.1, ((@I.add .i64 x1.1.2.1 (I.of .i64 1)), ())), (x1.2.1, ()))))
        (.again ((x1.1.1, ((@I.add .i64 x1.1.2.1 (I.of .i64 1)), ())), (x1.2.1, ())))) fun j1 =>
     brn (@I.ltb .i64 (I.of .i64 0) (@I.rem .i64 x0.1.1 (I.of .i64 3)))
      (brn (@inB .i64 x0.1.2.1 (@lenL S_api_Poster x0.2.1))
       (brn (@inB .i64 x0.1.2.1 (@lenL S_api_Poster x0.2.1))
        (brn (@inB .i64 x0.1.2.1 (@lenL S_api_Poster (@setL S_api_Poster x0.2.1 (@I.nat .i64 x0.1.2.1) ((@rdL S_api_Poster Z_S_api_Poster x0.2.1 (@I.nat .i64 x0.1.2.1)).1, ((@rdL S_api_Poster Z_S_api_Poster x0.2.1 (@I.nat .i64 x0.1.2.1)).2.1, ((@rdL S_api_Poster Z_S_api_Poster x0.2.1 (@I.nat .i64 x0.1.2.1)).2.2.1, ((@rdL S_api_Poster Z_S_api_Poster x0.2.1 (@I.nat .i64 x0.1.2.1)).2.2.2.1, ((@rdL S_api_Poster Z_S_api_Poster x0.2.1 (@I.nat .i64 x0.1.2.1)).2.2.2.2.1, ((@I.rem .u64 (@rdL S_api_Poster Z_S_api_Poster x0.2.1 (@I.nat .i64 x0.1.2.1)).2.2.2.2.2.1 (I.of .u64 5)), (@rdL S_api_Poster Z_S_api_Poster x0.2.1 (@I.nat .i64 x0.1.2.1)).2.2.2.2.2.2)))))))))
         (brn (@inB .i64 x0.1.2.1 (@lenL S_api_Poster (@setL S_api_Poster x0.2.1 (@I.nat .i64 x0.1.2.1) ((@rdL S_api_Poster Z_S_api_Poster x0.2.1 (@I.nat .i64 x0.1.2.1)).1, ((@rdL S_api_Poster Z_S_api_Poster x0.2.1 (@I.nat .i64 x0.1.2.1)).2.1, ((@rdL S_api_Poster Z_S_api_Poster x0.2.1 (@I.nat .i64 x0.1.2.1)).2.2.1, ((@rdL S_api_Poster Z_S_api_Poster x0.2.1 (@I.nat .i64 x0.1.2.1)).2.2.2.1, ((@rdL S_api_Poster Z_S_api_Poster x0.2.1 (@I.nat .i64 x0.1.2.1)).2.2.2.2.1, ((@I.rem .u64 (@rdL S_api_Poster Z_S_api_Poster x0.2.1 (@I.nat .i64 x0.1.2.1)).2.2.2.2.2.1 (I.of .u64 5)), (@rdL S_api_Poster Z_S_api_Poster x0.2.1 (@I.nat .i64 x0.1.2.1)).2.2.2.2.2.2)))))))))
          (j1 ((x0.1.1, (x0.1.2.1, ())), ((@setL S_api_Poster (@setL S_api_Poster x0.2.1 (@I.nat .i64 x0.1.2.1) ((@rdL S_api_Poster Z_S_api_Poster x0.2.1 (@I.nat .i64 x0.1.2.1)).1, ((@rdL S_api_Poster Z_S_api_Poster x0.2.1 (@I.nat .i64 x0.1.2.1)).2.1, ((@rdL S_api_Poster Z_S_api_Poster x0.2.1 (@I.nat .i64 x0.1.2.1)).2.2.1, ((@rdL S_api_Poster Z_S_api_Poster x0.2.1 (@I.nat .i64 x0.1.2.1)).2.2.2.1, ((@rdL S_api_Poster Z_S_api_Poster x0.2.1 (@I.nat .i64 x0.1.2.1)).2.2.2.2.1, ((@I.rem .u64 (@rdL S_api_Poster Z_S_api_Poster x0.2.1 (@I.nat .i64 x0.1.2.1)).2.2.2.2.2.1 (I.of .u64 5)), (@rdL S_api_Poster Z_S_api_Poster x0.2.1 (@I.nat .i64 x0.1.2.1)).2.2.2.2.2.2))))))) (@I.nat .i64 x0.1.2.1) ((@I.rem .u64 (@rdL S_api_Poster Z_S_api_Poster (@setL S_api_Poster x0.2.1 (@I.nat .i64 x0.1.2.1) ((@rdL S_api_Poster Z_S_api_Poster x0.2.1 (@I.nat .i64 x0.1.2.1)).1, ((@rdL S_api_Poster Z_S_api_Poster x0.2.1 (@I.nat .i64 x0.1.2.1)).2.1, ((@rdL S_api_Poster Z_S_api_Poster x0.2.1 (@I.nat .i64 x0.1.2.1)).2.2.1, ((@rdL S_api_Poster Z_S_api_Poster x0.2.1 (@I.nat .i64 x0.1.2.1)).2.2.2.1, ((@rdL S_api_Poster Z_S_api_Poster x0.2.1 (@I.nat .i64 x0.1.2.1)).2.2.2.2.1, ((@I.rem .u64 (@rdL S_api_Poster Z_S_api_Poster x0.2.1 (@I.nat .i64 x0.1.2.1)).2.2.2.2.2.1 (I.of .u64 5)), (@rdL S_api_Poster Z_S_api_Poster x0.2.1 (@I.nat .i64 x0.1.2.1)).2.2.2.2.2.2))))))) (@I.nat .i64 x0.1.2.1)).1 (I.of .u64 6)), (@rdL S_api_Poster Z_S_api_Poster (@setL S_api_Poster x0.2.1 (@I.nat .i64 x0.1.2.1) ((@rdL S_api_Poster Z_S_api_Poster x0.2.1 (@I.nat .i64 x0.1.2.1)).1, ((@rdL S_api_Poster Z_S_api_Poster x0.2.1 (@I.nat .i64 x0.1.2.1)).2.1, ((@rdL S_api_Poster Z_S_api_Poster x0.2.1 (@I.nat .i64 x0.1.2.1)).2.2.1, ((@rdL S_api_Poster Z_S_api_Poster x0.2.1 (@I.nat .i64 x0.1.2.1)).2.2.2.1, ((@rdL S_api_Poster Z_S_api_Poster x0.2.1 (@I.nat .i64 x0.1.2.1)).2.2.2.2.1, ((@I.rem .u64 (@rdL S_api_Poster Z_S_api_Poster x0.2.1 (@I.nat .i64 x0.1.2.1)).2.2.2.2.2.1 (I.of .u64 5)), (@rdL S_api_Poster Z_S_api_Poster x0.2.1 (@I.nat .i64 x0.1.2.1)).2.2.2.2.2.2))))))) (@I.nat .i64 x0.1.2.1)).2)), ())))
          (.done (none)))
         (.done (none)))
        (.done (none)))
       (.done (none)))
      (j1 ((x0.1.1, (x0.1.2.1, ())), (x0.2.1, ()))))
     (.done (some ((x0.2.1, ()), ()))))
  K0 ((b, ((I.of .i64 0), ())), ((@appL S_api_Poster [] a), ())))
  (none)

/-- pontage/pontageref17.Sorted -/
noncomputable def pontageref17_Sorted (x : (⟨[.pl (.sl (.cons (.int .u64) (.cons (.arr 4 (.int .u64)) (.cons (.arr 4 (.int .u64)) (.cons (.arr 4 (.int .u64)) (.cons (.arr 4 (.int .u64)) (.cons (.int .u64) .nil)))))))], []⟩ : Tm).D) : Option (⟨[.pl (.sl (.cons (.int .u64) (.cons (.arr 4 (.int .u64)) (.cons (.arr 4 (.int .u64)) (.cons (.arr 4 (.int .u64)) (.cons (.arr 4 (.int .u64)) (.cons (.int .u64) .nil)))))))], []⟩ : Tm).D :=
 let a : (List S_api_Poster) := x.1.1
 iter (none) (fun x0 =>
   brn (@I.ltb .i64 x0.1.2.1 (I.ofNat .i64 (@lenL S_api_Poster x0.1.1)))
    (brn (@inB .i64 x0.1.2.1 (@lenL S_api_Poster x0.1.1))
     (brn (Ty.eqb (.arr 4 (.int .u64)) (@rdL S_api_Poster Z_S_api_Poster x0.1.1 (@I.nat .i64 x0.1.2.1)).2.1 Z_U)
      (.again ((x0.1.1, ((@I.add .i64 x0.1.2.1 (I.of .i64 1)), ())), (x0.2.1, ())))
      (jn (fun (x1 : (((List S_api_Poster) × ((I .i64) × ((I .i64) × Unit))) × ((List S_api_Poster) × Unit))) =>
        brn (@inB' .i64 x1.1.2.2.1 (@lenL S_api_Poster x1.2.1))
         (brn (@eqV .i64 .i64 x1.1.2.2.1 x1.1.2.2.1)
          (brn (@inB .i64 x1.1.2.1 (@lenL S_api_Poster x1.1.1))
           (brn (@inB' .i64 x1.1.2.2.1 (@lenL S_api_Poster x1.2.1))
            (brn (fitsLen (@lenL S_api_Poster (@appL S_api_Poster ((@rdL S_api_Poster Z_S_api_Poster x1.1.1 (@I.nat .i64 x1.1.2.1)) :: []) (@subL S_api_Poster x1.2.1 (@I.nat .i64 x1.1.2.2.1) ((@lenL S_api_Poster x1.2.1) - (@I.nat .i64 x1.1.2.2.1))))))
             (brn (fitsLen (@lenL S_api_Poster (@appL S_api_Poster (@subL S_api_Poster x1.2.1 0 (@I.nat .i64 x1.1.2.2.1)) (@appL S_api_Poster ((@rdL S_api_Poster Z_S_api_Poster x1.1.1 (@I.nat .i64 x1.1.2.1)) :: []) (@subL S_api_Poster x1.2.1 (@I.nat .i64 x1.1.2.2.1) ((@lenL S_api_Poster x1.2.1) - (@I.nat .i64 x1.1.2.2.1)))))))
              (brn (emptyN (@lenL S_api_Poster (@appL S_api_Poster ((@rdL S_api_Poster Z_S_api_Poster x1.1.1 (@I.nat .i64 x1.1.2.1)) :: []) (@subL S_api_Poster x1.2.1 (@I.nat .i64 x1.1.2.2.1) ((@lenL S_api_Poster x1.2.1) - (@I.nat .i64 x1.1.2.2.1))))))
               (.done (none))
               (.again ((x1.1.1, ((@I.add .i64 x1.1.2.1 (I.of .i64 1)), ())), ((@appL S_api_Poster (@subL S_api_Poster x1.2.1 0 (@I.nat .i64 x1.1.2.2.1)) (@appL S_api_Poster ((@rdL S_api_Poster Z_S_api_Poster x1.1.1 (@I.nat .i64 x1.1.2.1)) :: []) (@subL S_api_Poster x1.2.1 (@I.nat .i64 x1.1.2.2.1) ((@lenL S_api_Poster x1.2.1) - (@I.nat .i64 x1.1.2.2.1))))), ()))))
              (.done (none)))
             (.done (none)))
            (.done (none)))
           (.done (none)))
          (.done (none)))
         (.done (none))) fun j1 =>
      iter (.done (none)) (fun x2 =>
        brn (@I.ltb .i64 (I.of .i64 0) x2.1.2.2.1)
         (brn (@inB .i64 (@I.sub .i64 x2.1.2.2.1 (I.of .i64 1)) (@lenL S_api_Poster x2.2.1))
          (brn (@inB .i64 x2.1.2.1 (@lenL S_api_Poster x2.1.1))
           (brn (@I.ltb .u64 (@rdL S_api_Poster Z_S_api_Poster x2.1.1 (@I.nat .i64 x2.1.2.1)).2.2.2.2.2.1 (@rdL S_api_Poster Z_S_api_Poster x2.2.1 (@I.nat .i64 (@I.sub .i64 x2.1.2.2.1 (I.of .i64 1)))).2.2.2.2.2.1)
            (.again ((x2.1.1, (x2.1.2.1, ((@I.sub .i64 x2.1.2.2.1 (I.of .i64 1)), ()))), (x2.2.1, ())))
            (brn (@inB .i64 (@I.sub .i64 x2.1.2.2.1 (I.of .i64 1)) (@lenL S_api_Poster x2.2.1))
             (brn (@inB .i64 x2.1.2.1 (@lenL S_api_Poster x2.1.1))
              (brn (@I.eqb .u64 (@rdL S_api_Poster Z_S_api_Poster x2.2.1 (@I.nat .i64 (@I.sub .i64 x2.1.2.2.1 (I.of .i64 1)))).2.2.2.2.2.1 (@rdL S_api_Poster Z_S_api_Poster x2.1.1 (@I.nat .i64 x2.1.2.1)).2.2.2.2.2.1)
               (brn (@inB .i64 (@I.sub .i64 x2.1.2.2.1 (I.of .i64 1)) (@lenL S_api_Poster x2.2.1))
                (brn (@inB .i64 x2.1.2.1 (@lenL S_api_Poster x2.1.1))
                 (brn (@I.ltb .u64 (@rdL S_api_Poster Z_S_api_Poster x2.1.1 (@I.nat .i64 x2.1.2.1)).1 (@rdL S_api_Poster Z_S_api_Poster x2.2.1 (@I.nat .i64 (@I.sub .i64 x2.1.2.2.1 (I.of .i64 1)))).1)
                  (.again ((x2.1.1, (x2.1.2.1, ((@I.sub .i64 x2.1.2.2.1 (I.of .i64 1)), ()))), (x2.2.1, ())))
                  (.done (j1 ((x2.1.1, (x2.1.2.1, (x2.1.2.2.1, ()))), (x2.2.1, ())))))
                 (.done (.done (none))))
                (.done (.done (none))))
               (.done (j1 ((x2.1.1, (x2.1.2.1, (x2.1.2.2.1, ()))), (x2.2.1, ())))))
              (.done (.done (none))))
             (.done (.done (none)))))
           (.done (.done (none))))
          (.done (.done (none))))
         (.done (j1 ((x2.1.1, (x2.1.2.1, (x2.1.2.2.1, ()))), (x2.2.1, ())))))
      K0 ((x0.1.1, (x0.1.2.1, ((I.ofNat .i64 (@lenL S_api_Poster x0.2.1)), ()))), (x0.2.1, ()))))
     (.done (none)))
    (.done (some ((x0.2.1, ()), ()))))
 K0 ((a, ((I.of .i64 0), ())), ([], ()))

/-- pontage/pontagelaw0.EqualAddresses -/
noncomputable def pontagelaw0_EqualAddresses (x : (⟨[.pl (.sl (.int .u64)), .pl (.sl (.int .u64))], []⟩ : Tm).D) : Option (⟨[.pl .bool], []⟩ : Tm).D :=
 let a : (List (I .u64)) := x.1.1
 let b : (List (I .u64)) := x.1.2.1
 brn (@I.neb .i64 (I.ofNat .i64 (@lenL (I .u64) a)) (I.ofNat .i64 (@lenL (I .u64) b)))
  (some ((false, ()), ()))
  (iter (none) (fun x0 =>
    brn (@I.ltb .i64 x0.1.2.2.1 (I.ofNat .i64 (@lenL (I .u64) x0.1.1)))
     (brn (@inB .i64 x0.1.2.2.1 (@lenL (I .u64) x0.1.1))
      (brn (@inB .i64 x0.1.2.2.1 (@lenL (I .u64) x0.1.2.1))
       (brn (@I.neb .u64 (@rdL (I .u64) (I.of .u64 0) x0.1.1 (@I.nat .i64 x0.1.2.2.1)) (@rdL (I .u64) (I.of .u64 0) x0.1.2.1 (@I.nat .i64 x0.1.2.2.1)))
        (.done (some ((false, ()), ())))
        (.again ((x0.1.1, (x0.1.2.1, ((@I.add .i64 x0.1.2.2.1 (I.of .i64 1)), ()))), ())))
       (.done (none)))
      (.done (none)))
     (.done (some ((true, ()), ()))))
  K0 ((a, (b, ((I.of .i64 0), ()))), ()))

/-- pontage/pontageref17.Order -/
noncomputable def pontageref17_Order (x : (⟨[.pl (.sl (.cons (.int .u64) (.cons (.arr 4 (.int .u64)) (.cons (.arr 4 (.int .u64)) (.cons (.arr 4 (.int .u64)) (.cons (.arr 4 (.int .u64)) (.cons (.int .u64) .nil)))))))], []⟩ : Tm).D) : Option (⟨[.pl (.sl (.int .u64))], []⟩ : Tm).D :=
 let a : (List S_api_Poster) := x.1.1
 optF (none) (pontageref17_Sorted ((a, ()), ())) fun y0 =>
 iter (none) (fun x1 =>
   brn (@I.ltb .i64 x1.1.2.1 (I.ofNat .i64 (@lenL S_api_Poster x1.1.1)))
    (brn (@inB .i64 x1.1.2.1 (@lenL S_api_Poster x1.1.1))
     (brn (fitsLen (@lenL (I .u64) (@appL (I .u64) x1.2.1 ((@rdL S_api_Poster Z_S_api_Poster x1.1.1 (@I.nat .i64 x1.1.2.1)).1 :: []))))
      (.again ((x1.1.1, ((@I.add .i64 x1.1.2.1 (I.of .i64 1)), ())), ((@appL (I .u64) x1.2.1 ((@rdL S_api_Poster Z_S_api_Poster x1.1.1 (@I.nat .i64 x1.1.2.1)).1 :: [])), ())))
      (.done (none)))
     (.done (none)))
    (.done (some ((x1.2.1, ()), ()))))
 K0 ((y0.1.1, ((I.of .i64 0), ())), ([], ()))

/-- pontage/pontagelaw17.DebtQueueOrder -/
noncomputable def pontagelaw17_DebtQueueOrder (x : (⟨[.pl (.sl (.cons (.int .u64) (.cons (.arr 4 (.int .u64)) (.cons (.arr 4 (.int .u64)) (.cons (.arr 4 (.int .u64)) (.cons (.arr 4 (.int .u64)) (.cons (.int .u64) .nil))))))), .pl (.int .i64)], []⟩ : Tm).D) : Option (⟨[.pl .bool], []⟩ : Tm).D :=
 let a : (List S_api_Poster) := x.1.1
 let b : (I .i64) := x.1.2.1
 brn (@I.ltb .i64 (I.of .i64 60) (I.ofNat .i64 (@lenL S_api_Poster a)))
  (optF (none) (pontagelaw17_awake ((), ())) fun y0 =>
  some ((y0.1.1, ()), ()))
  (optF (none) (pontagelaw0_Mod ((b, ((I.of .i64 6), ())), ())) fun y0 =>
  optF (none) (pontagelaw17_collide ((a, (y0.1.1, ())), ())) fun y1 =>
  optF (none) (debtqueue_New ((y1.1.1, ()), ())) fun y2 =>
  optF (none) (pontageref17_Sorted ((y1.1.1, ()), ())) fun y3 =>
  jn (fun (x4 : (((List S_api_Poster) × Unit) × ((Unit × Unit) × ((List S_debtqueue_item) × Unit)))) =>
    iter (none) (fun x5 =>
      brn (@I.ltb .i64 x5.1.2.1 (I.ofNat .i64 (@lenL S_api_Poster x5.1.1)))
       (optF (.done (none)) (debtqueue_Queue_Peek ((), (((), x5.2.1.2), (x5.2.2.1, ())))) fun y6 =>
       optF (.done (none)) (debtqueue_Queue_Pop ((), (((), y6.2.1.2), (y6.2.2.1, ())))) fun y7 =>
       brn (bnot y6.1.2.1)
        (.done (some ((false, ()), ())))
        (brn (bnot y7.1.2.1)
         (.done (some ((false, ()), ())))
         (brn (@inB .i64 x5.1.2.1 (@lenL S_api_Poster x5.1.1))
          (brn (bnot (Ty.eqb (.cons (.int .u64) (.cons (.arr 4 (.int .u64)) (.cons (.arr 4 (.int .u64)) (.cons (.arr 4 (.int .u64)) (.cons (.arr 4 (.int .u64)) (.cons (.int .u64) .nil)))))) y6.1.1 (@rdL S_api_Poster Z_S_api_Poster x5.1.1 (@I.nat .i64 x5.1.2.1))))
           (.done (some ((false, ()), ())))
           (brn (@inB .i64 x5.1.2.1 (@lenL S_api_Poster x5.1.1))
            (brn (bnot (Ty.eqb (.cons (.int .u64) (.cons (.arr 4 (.int .u64)) (.cons (.arr 4 (.int .u64)) (.cons (.arr 4 (.int .u64)) (.cons (.arr 4 (.int .u64)) (.cons (.int .u64) .nil)))))) y7.1.1 (@rdL S_api_Poster Z_S_api_Poster x5.1.1 (@I.nat .i64 x5.1.2.1))))
             (.done (some ((false, ()), ())))
             (optF (.done (none)) (debtqueue_Queue_Len ((), (((), y7.2.1.2), (y7.2.2.1, ())))) fun y8 =>
             brn (@I.neb .i64 y8.1.1 (@I.sub .i64 (@I.sub .i64 (I.ofNat .i64 (@lenL S_api_Poster x5.1.1)) (I.of .i64 1)) x5.1.2.1))
              (.done (some ((false, ()), ())))
              (.again ((x5.1.1, ((@I.add .i64 x5.1.2.1 (I.of .i64 1)), ())), (((), y8.2.1.2), (y8.2.2.1, ()))))))
            (.done (none))))
          (.done (none)))))
       (.done (optF (none) (debtqueue_Queue_Peek ((), (((), x5.2.1.2), (x5.2.2.1, ())))) fun y6 =>
       optF (none) (debtqueue_Queue_Pop ((), (((), y6.2.1.2), (y6.2.2.1, ())))) fun y7 =>
       brn (bnot y6.1.2.1)
        (brn (bnot y7.1.2.1)
         (brn (Ty.eqb (.cons (.int .u64) (.cons (.arr 4 (.int .u64)) (.cons (.arr 4 (.int .u64)) (.cons (.arr 4 (.int .u64)) (.cons (.arr 4 (.int .u64)) (.cons (.int .u64) .nil)))))) y6.1.1 Z_S_api_Poster)
          (brn (Ty.eqb (.cons (.int .u64) (.cons (.arr 4 (.int .u64)) (.cons (.arr 4 (.int .u64)) (.cons (.arr 4 (.int .u64)) (.cons (.arr 4 (.int .u64)) (.cons (.int .u64) .nil)))))) y7.1.1 Z_S_api_Poster)
           (optF (none) (debtqueue_Queue_Len ((), (((), y7.2.1.2), (y7.2.2.1, ())))) fun y8 =>
           brn (@I.eqb .i64 y8.1.1 (I.of .i64 0))
            (optF (none) (pontagelaw17_awake ((), ())) fun y9 =>
            some ((y9.1.1, ()), ()))
            (some ((false, ()), ())))
           (some ((false, ()), ())))
          (some ((false, ()), ())))
         (some ((false, ()), ())))
        (some ((false, ()), ())))))
    K0 ((x4.1.1, ((I.of .i64 0), ())), (((), x4.2.1.2), (x4.2.2.1, ())))) fun j4 =>
  optF (none) (debtqueue_Queue_Len ((), (((), y2.2.1.2), (y2.2.2.1, ())))) fun y5 =>
  brn (@I.neb .i64 y5.1.1 (I.ofNat .i64 (@lenL S_api_Poster y3.1.1)))
   (some ((false, ()), ()))
   (optF (none) (debtqueue_Order ((y1.1.1, ()), ())) fun y6 =>
   optF (none) (pontageref17_Order ((y1.1.1, ()), ())) fun y7 =>
   optF (none) (pontagelaw0_EqualAddresses ((y6.1.1, (y7.1.1, ())), ())) fun y8 =>
   brn (bnot y8.1.1)
    (some ((false, ()), ()))
    (j4 ((y3.1.1, ()), (((), y5.2.1.2), (y5.2.2.1, ()))))))

/-- pontage/pontagelaw17.contains -/
noncomputable def pontagelaw17_contains (x : (⟨[.pl (.sl (.cons (.int .u64) (.cons (.arr 4 (.int .u64)) (.cons (.arr 4 (.int .u64)) (.cons (.arr 4 (.int .u64)) (.cons (.arr 4 (.int .u64)) (.cons (.int .u64) .nil))))))), .pl (.cons (.int .u64) (.cons (.arr 4 (.int .u64)) (.cons (.arr 4 (.int .u64)) (.cons (.arr 4 (.int .u64)) (.cons (.arr 4 (.int .u64)) (.cons (.int .u64) .nil))))))], []⟩ : Tm).D) : Option (⟨[.pl .bool], []⟩ : Tm).D :=
 let a : (List S_api_Poster) := x.1.1
 let b : S_api_Poster := x.1.2.1
 iter (none) (fun x0 =>
   brn (@I.ltb .i64 x0.1.2.1 (I.ofNat .i64 (@lenL S_api_Poster x0.1.1)))
    (brn (@inB .i64 x0.1.2.1 (@lenL S_api_Poster x0.1.1))
     (brn (Ty.eqb (.cons (.int .u64) (.cons (.arr 4 (.int .u64)) (.cons (.arr 4 (.int .u64)) (.cons (.arr 4 (.int .u64)) (.cons (.arr 4 (.int .u64)) (.cons (.int .u64) .nil)))))) (@rdL S_api_Poster Z_S_api_Poster x0.1.1 (@I.nat .i64 x0.1.2.1)) x0.2.1)
      (.done (some ((true, ()), ())))
      (.again ((x0.1.1, ((@I.add .i64 x0.1.2.1 (I.of .i64 1)), ())), (x0.2.1, ()))))
     (.done (none)))
    (.done (some ((false, ()), ()))))
 K0 ((a, ((I.of .i64 0), ())), (b, ()))

/-- pontage/pontagelaw0.EqualPosters -/
noncomputable def pontagelaw0_EqualPosters (x : (⟨[.pl (.sl (.cons (.int .u64) (.cons (.arr 4 (.int .u64)) (.cons (.arr 4 (.int .u64)) (.cons (.arr 4 (.int .u64)) (.cons (.arr 4 (.int .u64)) (.cons (.int .u64) .nil))))))), .pl (.sl (.cons (.int .u64) (.cons (.arr 4 (.int .u64)) (.cons (.arr 4 (.int .u64)) (.cons (.arr 4 (.int .u64)) (.cons (.arr 4 (.int .u64)) (.cons (.int .u64) .nil)))))))], []⟩ : Tm).D) : Option (⟨[.pl .bool], []⟩ : Tm).D :=
 let a : (List S_api_Poster) := x.1.1
 let b : (List S_api_Poster) := x.1.2.1
 brn (@I.neb .i64 (I.ofNat .i64 (@lenL S_api_Poster a)) (I.ofNat .i64 (@lenL S_api_Poster b)))
  (some ((false, ()), ()))
  (iter (none) (fun x0 =>
    brn (@I.ltb .i64 x0.1.2.2.1 (I.ofNat .i64 (@lenL S_api_Poster x0.1.1)))
     (brn (@inB .i64 x0.1.2.2.1 (@lenL S_api_Poster x0.1.1))
      (brn (@inB .i64 x0.1.2.2.1 (@lenL S_api_Poster x0.1.2.1))
       (brn (bnot (Ty.eqb (.cons (.int .u64) (.cons (.arr 4 (.int .u64)) (.cons (.arr 4 (.int .u64)) (.cons (.arr 4 (.int .u64)) (.cons (.arr 4 (.int .u64)) (.cons (.int .u64) .nil)))))) (@rdL S_api_Poster Z_S_api_Poster x0.1.1 (@I.nat .i64 x0.1.2.2.1)) (@rdL S_api_Poster Z_S_api_Poster x0.1.2.1 (@I.nat .i64 x0.1.2.2.1))))
        (.done (some ((false, ()), ())))
        (.again ((x0.1.1, (x0.1.2.1, ((@I.add .i64 x0.1.2.2.1 (I.of .i64 1)), ()))), ())))
       (.done (none)))
      (.done (none)))
     (.done (some ((true, ()), ()))))
  K0 ((a, (b, ((I.of .i64 0), ()))), ()))

/-- pontage/pontagelaw17.DebtQueueComplete -/
noncomputable def pontagelaw17_DebtQueueComplete (x : (⟨[.pl (.sl (.cons (.int .u64) (.cons (.arr 4 (.int .u64)) (.cons (.arr 4 (.int .u64)) (.cons (.arr 4 (.int .u64)) (.cons (.arr 4 (.int .u64)) (.cons (.int .u64) .nil))))))), .pl (.int .i64)], []⟩ : Tm).D) : Option (⟨[.pl .bool], []⟩ : Tm).D :=
 let a : (List S_api_Poster) := x.1.1
 let b : (I .i64) := x.1.2.1
 brn (@I.ltb .i64 (I.of .i64 60) (I.ofNat .i64 (@lenL S_api_Poster a)))
  (optF (none) (pontagelaw17_awake ((), ())) fun y0 =>
  some ((y0.1.1, ()), ()))
  (optF (none) (pontagelaw0_Mod ((b, ((I.of .i64 6), ())), ())) fun y0 =>
  optF (none) (pontagelaw17_collide ((a, (y0.1.1, ())), ())) fun y1 =>
  brn (fitsLen (@lenL S_api_Poster (@appL S_api_Poster [] y1.1.1)))
   (optF (none) (debtqueue_New ((y1.1.1, ()), ())) fun y2 =>
   iter (none) (fun x3 =>
     brn (@I.ltb .i64 x3.1.2.2.1 (I.ofNat .i64 (@lenL S_api_Poster x3.1.1)))
      (brn (@inB .i64 x3.1.2.2.1 (@lenL S_api_Poster x3.1.1))
       (brn (bnot (Ty.eqb (.arr 4 (.int .u64)) (@rdL S_api_Poster Z_S_api_Poster x3.1.1 (@I.nat .i64 x3.1.2.2.1)).2.1 Z_U))
        (.again ((x3.1.1, ((@I.add .i64 x3.1.2.1 (I.of .i64 1)), ((@I.add .i64 x3.1.2.2.1 (I.of .i64 1)), ()))), (x3.2.1, (((), x3.2.2.1.2), (x3.2.2.2.1, ())))))
        (.again ((x3.1.1, (x3.1.2.1, ((@I.add .i64 x3.1.2.2.1 (I.of .i64 1)), ()))), (x3.2.1, (((), x3.2.2.1.2), (x3.2.2.2.1, ()))))))
       (.done (none)))
      (.done (optF (none) (debtqueue_Queue_Len ((), (((), x3.2.2.1.2), (x3.2.2.2.1, ())))) fun y4 =>
      brn (@I.neb .i64 y4.1.1 x3.1.2.1)
       (some ((false, ()), ()))
       (iter (none) (fun x5 =>
         brn (@I.ltb .i64 x5.1.2.2.1 x5.1.2.1)
          (optF (.done (none)) (debtqueue_Queue_Pop ((), (((), x5.2.2.1.2), (x5.2.2.2.1, ())))) fun y6 =>
          brn (bnot y6.1.2.1)
           (.done (some ((false, ()), ())))
           (brn (Ty.eqb (.arr 4 (.int .u64)) y6.1.1.2.1 Z_U)
            (.done (some ((false, ()), ())))
            (brn (@I.ltb .i64 (I.of .i64 0) x5.1.2.2.1)
             (brn (@I.ltb .u64 y6.1.1.2.2.2.2.2.1 x5.2.2.2.2.1.2.2.2.2.2.1)
              (.done (some ((false, ()), ())))
              (brn (@I.eqb .u64 y6.1.1.2.2.2.2.2.1 x5.2.2.2.2.1.2.2.2.2.2.1)
               (brn (@I.ltb .u64 y6.1.1.1 x5.2.2.2.2.1.1)
                (.done (some ((false, ()), ())))
                (optF (.done (none)) (pontagelaw17_contains ((x5.1.1, (y6.1.1, ())), ())) fun y7 =>
                brn (bnot y7.1.1)
                 (.done (some ((false, ()), ())))
                 (.again ((x5.1.1, (x5.1.2.1, ((@I.add .i64 x5.1.2.2.1 (I.of .i64 1)), ()))), (x5.2.1, (((), y6.2.1.2), (y6.2.2.1, (y6.1.1, ()))))))))
               (optF (.done (none)) (pontagelaw17_contains ((x5.1.1, (y6.1.1, ())), ())) fun y7 =>
               brn (bnot y7.1.1)
                (.done (some ((false, ()), ())))
                (.again ((x5.1.1, (x5.1.2.1, ((@I.add .i64 x5.1.2.2.1 (I.of .i64 1)), ()))), (x5.2.1, (((), y6.2.1.2), (y6.2.2.1, (y6.1.1, ())))))))))
             (optF (.done (none)) (pontagelaw17_contains ((x5.1.1, (y6.1.1, ())), ())) fun y7 =>
             brn (bnot y7.1.1)
              (.done (some ((false, ()), ())))
              (.again ((x5.1.1, (x5.1.2.1, ((@I.add .i64 x5.1.2.2.1 (I.of .i64 1)), ()))), (x5.2.1, (((), y6.2.1.2), (y6.2.2.1, (y6.1.1, ()))))))))))
          (.done (optF (none) (debtqueue_Queue_Pop ((), (((), x5.2.2.1.2), (x5.2.2.2.1, ())))) fun y6 =>
          brn (bnot y6.1.2.1)
           (optF (none) (pontagelaw0_EqualPosters ((x5.2.1, (x5.1.1, ())), ())) fun y7 =>
           brn y7.1.1
            (optF (none) (pontagelaw17_awake ((), ())) fun y8 =>
            some ((y8.1.1, ()), ()))
            (some ((false, ()), ())))
           (some ((false, ()), ())))))
       K0 ((x3.1.1, (x3.1.2.1, ((I.of .i64 0), ()))), (x3.2.1, (((), y4.2.1.2), (y4.2.2.1, (Z_S_api_Poster, ())))))))))
   K0 ((y1.1.1, ((I.of .i64 0), ((I.of .i64 0), ()))), ((@appL S_api_Poster [] y1.1.1), (((), y2.2.1.2), (y2.2.2.1, ())))))
   (none))

/-- pontage/pontagelaw17.DebtQueueEmpty -/
noncomputable def pontagelaw17_DebtQueueEmpty (x : (⟨[.pl (.int .u64), .pl (.int .u64)], []⟩ : Tm).D) : Option (⟨[.pl .bool], []⟩ : Tm).D :=
 let a : (I .u64) := x.1.1
 let b : (I .u64) := x.1.2.1
 optF (none) (debtqueue_New ((((a, (Z_U, (Z_U, (Z_U, (Z_U, (b, ())))))) :: []), ()), ())) fun y0 =>
 brn (@I.eqb .i64 (I.ofNat .i64 (@lenL S_debtqueue_item y0.2.2.1)) (I.of .i64 0))
  (brn (@I.eqb .i64 (I.ofNat .i64 (@lenL S_debtqueue_item y0.2.2.1)) (I.of .i64 0))
   (optF (none) (debtqueue_Order (([], ()), ())) fun y1 =>
   brn (@I.eqb .i64 (I.ofNat .i64 (@lenL (I .u64) y1.1.1)) (I.of .i64 0))
    (optF (none) (pontagelaw17_awake ((), ())) fun y2 =>
    some ((y2.1.1, ()), ()))
    (some ((false, ()), ())))
   (some ((false, ()), ())))
  (brn (@inB .i64 (I.of .i64 0) (@lenL S_debtqueue_item y0.2.2.1))
   (optF (none) (debtqueue_items_Len ((y0.2.2.1, ()), ())) fun y1 =>
   brn (@inB .i64 (@I.sub .i64 y1.1.1 (I.of .i64 1)) (@lenL S_debtqueue_item y0.2.2.1))
    (brn (@inB .i64 (I.of .i64 0) (@lenL S_debtqueue_item y0.2.2.1))
     (brn (@inB .i64 (I.of .i64 0) (@lenL S_debtqueue_item y0.2.2.1))
      (brn (@inB .i64 (@I.sub .i64 y1.1.1 (I.of .i64 1)) (@lenL S_debtqueue_item (@setL S_debtqueue_item y0.2.2.1 0 (@rdL S_debtqueue_item Z_S_debtqueue_item y0.2.2.1 (@I.nat .i64 (@I.sub .i64 y1.1.1 (I.of .i64 1)))))))
       (iter (none) (fun x2 =>
         brn (@I.leb .i64 x2.1.2.2.1 (@I.add .i64 (@I.mul .i64 (I.of .i64 2) x2.1.2.2.2.1) (I.of .i64 1)))
          (.done (brn (@inB .i64 (@I.sub .i64 (I.ofNat .i64 (@lenL S_debtqueue_item x2.2.2.1)) (I.of .i64 1)) (@lenL S_debtqueue_item x2.2.2.1))
           (brn (@inB' .i64 (@I.sub .i64 (I.ofNat .i64 (@lenL S_debtqueue_item x2.2.2.1)) (I.of .i64 1)) (@lenL S_debtqueue_item x2.2.2.1))
            (brn (bnot x2.1.2.2.2.2.2.2.1)
             (brn (bnot x2.1.2.2.2.2.2.2.2.1)
              (brn (Ty.eqb (.cons (.int .u64) (.cons (.arr 4 (.int .u64)) (.cons (.arr 4 (.int .u64)) (.cons (.arr 4 (.int .u64)) (.cons (.arr 4 (.int .u64)) (.cons (.int .u64) .nil)))))) x2.2.2.2.2.2.1 Z_S_api_Poster)
               (brn (Ty.eqb (.cons (.int .u64) (.cons (.arr 4 (.int .u64)) (.cons (.arr 4 (.int .u64)) (.cons (.arr 4 (.int .u64)) (.cons (.arr 4 (.int .u64)) (.cons (.int .u64) .nil)))))) x2.2.2.2.2.2.2.1 Z_S_api_Poster)
                (brn (@I.eqb .i64 (I.ofNat .i64 (@lenL S_debtqueue_item (@subL S_debtqueue_item x2.2.2.1 0 (@I.nat .i64 (@I.sub .i64 (I.ofNat .i64 (@lenL S_debtqueue_item x2.2.2.1)) (I.of .i64 1)))))) (I.of .i64 0))
                 (brn (bnot x2.1.2.2.2.2.2.1)
                  (optF (none) (debtqueue_Order (([], ()), ())) fun y3 =>
                  brn (@I.eqb .i64 (I.ofNat .i64 (@lenL (I .u64) y3.1.1)) (I.of .i64 0))
                   (optF (none) (pontagelaw17_awake ((), ())) fun y4 =>
                   some ((y4.1.1, ()), ()))
                   (some ((false, ()), ())))
                  (some ((false, ()), ())))
                 (some ((false, ()), ())))
                (some ((false, ()), ())))
               (some ((false, ()), ())))
              (some ((false, ()), ())))
             (some ((false, ()), ())))
            (none))
           (none)))
          (brn (@I.ltb .i64 (@I.add .i64 (@I.mul .i64 (I.of .i64 2) x2.1.2.2.2.1) (I.of .i64 1)) (I.of .i64 0))
           (.done (brn (@inB .i64 (@I.sub .i64 (I.ofNat .i64 (@lenL S_debtqueue_item x2.2.2.1)) (I.of .i64 1)) (@lenL S_debtqueue_item x2.2.2.1))
            (brn (@inB' .i64 (@I.sub .i64 (I.ofNat .i64 (@lenL S_debtqueue_item x2.2.2.1)) (I.of .i64 1)) (@lenL S_debtqueue_item x2.2.2.1))
             (brn (bnot x2.1.2.2.2.2.2.2.1)
              (brn (bnot x2.1.2.2.2.2.2.2.2.1)
               (brn (Ty.eqb (.cons (.int .u64) (.cons (.arr 4 (.int .u64)) (.cons (.arr 4 (.int .u64)) (.cons (.arr 4 (.int .u64)) (.cons (.arr 4 (.int .u64)) (.cons (.int .u64) .nil)))))) x2.2.2.2.2.2.1 Z_S_api_Poster)
                (brn (Ty.eqb (.cons (.int .u64) (.cons (.arr 4 (.int .u64)) (.cons (.arr 4 (.int .u64)) (.cons (.arr 4 (.int .u64)) (.cons (.arr 4 (.int .u64)) (.cons (.int .u64) .nil)))))) x2.2.2.2.2.2.2.1 Z_S_api_Poster)
                 (brn (@I.eqb .i64 (I.ofNat .i64 (@lenL S_debtqueue_item (@subL S_debtqueue_item x2.2.2.1 0 (@I.nat .i64 (@I.sub .i64 (I.ofNat .i64 (@lenL S_debtqueue_item x2.2.2.1)) (I.of .i64 1)))))) (I.of .i64 0))
                  (brn (bnot x2.1.2.2.2.2.2.1)
                   (optF (none) (debtqueue_Order (([], ()), ())) fun y3 =>
                   brn (@I.eqb .i64 (I.ofNat .i64 (@lenL (I .u64) y3.1.1)) (I.of .i64 0))
                    (optF (none) (pontagelaw17_awake ((), ())) fun y4 =>
                    some ((y4.1.1, ()), ()))
                    (some ((false, ()), ())))
                   (some ((false, ()), ())))
                  (some ((false, ()), ())))
                 (some ((false, ()), ())))
                (some ((false, ()), ())))
               (some ((false, ()), ())))
              (some ((false, ()), ())))
             (none))
            (none)))
           (brn (@I.ltb .i64 (@I.add .i64 (@I.add .i64 (@I.mul .i64 (I.of .i64 2) x2.1.2.2.2.1) (I.of .i64 1)) (I.of .i64 1)) x2.1.2.2.1)
            (optF (.done (none)) (debtqueue_items_Less ((x2.2.2.1, ((@I.add .i64 (@I.add .i64 (@I.mul .i64 (I.of .i64 2) x2.1.2.2.2.1) (I.of .i64 1)) (I.of .i64 1)), ((@I.add .i64 (@I.mul .i64 (I.of .i64 2) x2.1.2.2.2.1) (I.of .i64 1)), ()))), ())) fun y3 =>
            brn y3.1.1
             (optF (.done (none)) (debtqueue_items_Less ((x2.2.2.1, ((@I.add .i64 (@I.add .i64 (@I.mul .i64 (I.of .i64 2) x2.1.2.2.2.1) (I.of .i64 1)) (I.of .i64 1)), (x2.1.2.2.2.1, ()))), ())) fun y4 =>
             brn (bnot y4.1.1)
              (.done (brn (@inB .i64 (@I.sub .i64 (I.ofNat .i64 (@lenL S_debtqueue_item x2.2.2.1)) (I.of .i64 1)) (@lenL S_debtqueue_item x2.2.2.1))
               (brn (@inB' .i64 (@I.sub .i64 (I.ofNat .i64 (@lenL S_debtqueue_item x2.2.2.1)) (I.of .i64 1)) (@lenL S_debtqueue_item x2.2.2.1))
                (brn (bnot x2.1.2.2.2.2.2.2.1)
                 (brn (bnot x2.1.2.2.2.2.2.2.2.1)
                  (brn (Ty.eqb (.cons (.int .u64) (.cons (.arr 4 (.int .u64)) (.cons (.arr 4 (.int .u64)) (.cons (.arr 4 (.int .u64)) (.cons (.arr 4 (.int .u64)) (.cons (.int .u64) .nil)))))) x2.2.2.2.2.2.1 Z_S_api_Poster)
                   (brn (Ty.eqb (.cons (.int .u64) (.cons (.arr 4 (.int .u64)) (.cons (.arr 4 (.int .u64)) (.cons (.arr 4 (.int .u64)) (.cons (.arr 4 (.int .u64)) (.cons (.int .u64) .nil)))))) x2.2.2.2.2.2.2.1 Z_S_api_Poster)
                    (brn (@I.eqb .i64 (I.ofNat .i64 (@lenL S_debtqueue_item (@subL S_debtqueue_item x2.2.2.1 0 (@I.nat .i64 (@I.sub .i64 (I.ofNat .i64 (@lenL S_debtqueue_item x2.2.2.1)) (I.of .i64 1)))))) (I.of .i64 0))
                     (brn (bnot x2.1.2.2.2.2.2.1)
                      (optF (none) (debtqueue_Order (([], ()), ())) fun y5 =>
                      brn (@I.eqb .i64 (I.ofNat .i64 (@lenL (I .u64) y5.1.1)) (I.of .i64 0))
                       (optF (none) (pontagelaw17_awake ((), ())) fun y6 =>
                       some ((y6.1.1, ()), ()))
                       (some ((false, ()), ())))
                      (some ((false, ()), ())))
                     (some ((false, ()), ())))
                    (some ((false, ()), ())))
                   (some ((false, ()), ())))
                  (some ((false, ()), ())))
                 (some ((false, ()), ())))
                (none))
               (none)))
              (brn (@inB .i64 (@I.add .i64 (@I.add .i64 (@I.mul .i64 (I.of .i64 2) x2.1.2.2.2.1) (I.of .i64 1)) (I.of .i64 1)) (@lenL S_debtqueue_item x2.2.2.1))
               (brn (@inB .i64 x2.1.2.2.2.1 (@lenL S_debtqueue_item x2.2.2.1))
                (brn (@inB .i64 x2.1.2.2.2.1 (@lenL S_debtqueue_item x2.2.2.1))
                 (brn (@inB .i64 (@I.add .i64 (@I.add .i64 (@I.mul .i64 (I.of .i64 2) x2.1.2.2.2.1) (I.of .i64 1)) (I.of .i64 1)) (@lenL S_debtqueue_item (@setL S_debtqueue_item x2.2.2.1 (@I.nat .i64 x2.1.2.2.2.1) (@rdL S_debtqueue_item Z_S_debtqueue_item x2.2.2.1 (@I.nat .i64 (@I.add .i64 (@I.add .i64 (@I.mul .i64 (I.of .i64 2) x2.1.2.2.2.1) (I.of .i64 1)) (I.of .i64 1)))))))
                  (.again (((), (x2.1.2.1, (x2.1.2.2.1, ((@I.add .i64 (@I.add .i64 (@I.mul .i64 (I.of .i64 2) x2.1.2.2.2.1) (I.of .i64 1)) (I.of .i64 1)), ((), (x2.1.2.2.2.2.2.1, (x2.1.2.2.2.2.2.2.1, (x2.1.2.2.2.2.2.2.2.1, ())))))))), (((), x2.2.1.2), ((@setL S_debtqueue_item (@setL S_debtqueue_item x2.2.2.1 (@I.nat .i64 x2.1.2.2.2.1) (@rdL S_debtqueue_item Z_S_debtqueue_item x2.2.2.1 (@I.nat .i64 (@I.add .i64 (@I.add .i64 (@I.mul .i64 (I.of .i64 2) x2.1.2.2.2.1) (I.of .i64 1)) (I.of .i64 1))))) (@I.nat .i64 (@I.add .i64 (@I.add .i64 (@I.mul .i64 (I.of .i64 2) x2.1.2.2.2.1) (I.of .i64 1)) (I.of .i64 1))) (@rdL S_debtqueue_item Z_S_debtqueue_item x2.2.2.1 (@I.nat .i64 x2.1.2.2.2.1))), (x2.2.2.2.1, (x2.2.2.2.2.1, (x2.2.2.2.2.2.1, (x2.2.2.2.2.2.2.1, ()))))))))
                  (.done (none)))
                 (.done (none)))
                (.done (none)))
               (.done (none))))
             (optF (.done (none)) (debtqueue_items_Less ((x2.2.2.1, ((@I.add .i64 (@I.mul .i64 (I.of .i64 2) x2.1.2.2.2.1) (I.of .i64 1)), (x2.1.2.2.2.1, ()))), ())) fun y4 =>
             brn (bnot y4.1.1)
              (.done (brn (@inB .i64 (@I.sub .i64 (I.ofNat .i64 (@lenL S_debtqueue_item x2.2.2.1)) (I.of .i64 1)) (@lenL S_debtqueue_item x2.2.2.1))
               (brn (@inB' .i64 (@I.sub .i64 (I.ofNat .i64 (@lenL S_debtqueue_item x2.2.2.1)) (I.of .i64 1)) (@lenL S_debtqueue_item x2.2.2.1))
                (brn (bnot x2.1.2.2.2.2.2.2.1)
                 (brn (bnot x2.1.2.2.2.2.2.2.2.1)
                  (brn (Ty.eqb (.cons (.int .u64) (.cons (.arr 4 (.int .u64)) (.cons (.arr 4 (.int .u64)) (.cons (.arr 4 (.int .u64)) (.cons (.arr 4 (.int .u64)) (.cons (.int .u64) .nil)))))) x2.2.2.2.2.2.1 Z_S_api_Poster)
                   (brn (Ty.eqb (.cons (.int .u64) (.cons (.arr 4 (.int .u64)) (.cons (.arr 4 (.int .u64)) (.cons (.arr 4 (.int .u64)) (.cons (.arr 4 (.int .u64)) (.cons (.int .u64) .nil)))))) x2.2.2.2.2.2.2.1 Z_S_api_Poster)
                    (brn (@I.eqb .i64 (I.ofNat .i64 (@lenL S_debtqueue_item (@subL S_debtqueue_item x2.2.2.1 0 (@I.nat .i64 (@I.sub .i64 (I.ofNat .i64 (@lenL S_debtqueue_item x2.2.2.1)) (I.of .i64 1)))))) (I.of .i64 0))
                     (brn (bnot x2.1.2.2.2.2.2.1)
                      (optF (none) (debtqueue_Order (([], ()), ())) fun y5 =>
                      brn (@I.eqb .i64 (I.ofNat .i64 (@lenL (I .u64) y5.1.1)) (I.of .i64 0))
                       (optF (none) (pontagelaw17_awake ((), ())) fun y6 =>
                       some ((y6.1.1, ()), ()))
                       (some ((false, ()), ())))
                      (some ((false, ()), ())))
                     (some ((false, ()), ())))
                    (some ((false, ()), ())))
                   (some ((false, ()), ())))
                  (some ((false, ()), ())))
                 (some ((false, ()), ())))
                (none))
               (none)))
              (brn (@inB .i64 (@I.add .i64 (@I.mul .i64 (I.of .i64 2) x2.1.2.2.2.1) (I.of .i64 1)) (@lenL S_debtqueue_item x2.2.2.1))
               (brn (@inB .i64 x2.1.2.2.2.1 (@lenL S_debtqueue_item x2.2.2.1))
                (brn (@inB .i64 x2.1.2.2.2.1 (@lenL S_debtqueue_item x2.2.2.1))
                 (brn (@inB .i64 (@I.add .i64 (@I.mul .i64 (I.of .i64 2) x2.1.2.2.2.1) (I.of .i64 1)) (@lenL S_debtqueue_item (@setL S_debtqueue_item x2.2.2.1 (@I.nat .i64 x2.1.2.2.2.1) (@rdL S_debtqueue_item Z_S_debtqueue_item x2.2.2.1 (@I.nat .i64 (@I.add .i64 (@I.mul .i64 (I.of .i64 2) x2.1.2.2.2.1) (I.of .i64 1)))))))
                  (.again (((), (x2.1.2.1, (x2.1.2.2.1, ((@I.add .i64 (@I.mul .i64 (I.of .i64 2) x2.1.2.2.2.1) (I.of .i64 1)), ((), (x2.1.2.2.2.2.2.1, (x2.1.2.2.2.2.2.2.1, (x2.1.2.2.2.2.2.2.2.1, ())))))))), (((), x2.2.1.2), ((@setL S_debtqueue_item (@setL S_debtqueue_item x2.2.2.1 (@I.nat .i64 x2.1.2.2.2.1) (@rdL S_debtqueue_item Z_S_debtqueue_item x2.2.2.1 (@I.nat .i64 (@I.add .i64 (@I.mul .i64 (I.of .i64 2) x2.1.2.2.2.1) (I.of .i64 1))))) (@I.nat .i64 (@I.add .i64 (@I.mul .i64 (I.of .i64 2) x2.1.2.2.2.1) (I.of .i64 1))) (@rdL S_debtqueue_item Z_S_debtqueue_item x2.2.2.1 (@I.nat .i64 x2.1.2.2.2.1))), (x2.2.2.2.1, (x2.2.2.2.2.1, (x2.2.2.2.2.2.1, (x2.2.2.2.2.2.2.1, ()))))))))
                  (.done (none)))
                 (.done (none)))
                (.done (none)))
               (.done (none)))))
            (optF (.done (none)) (debtqueue_items_Less ((x2.2.2.1, ((@I.add .i64 (@I.mul .i64 (I.of .i64 2) x2.1.2.2.2.1) (I.of .i64 1)), (x2.1.2.2.2.1, ()))), ())) fun y3 =>
            brn (bnot y3.1.1)
             (.done (brn (@inB .i64 (@I.sub .i64 (I.ofNat .i64 (@lenL S_debtqueue_item x2.2.2.1)) (I.of .i64 1)) (@lenL S_debtqueue_item x2.2.2.1))
              (brn (@inB' .i64 (@I.sub .i64 (I.ofNat .i64 (@lenL S_debtqueue_item x2.2.2.1)) (I.of .i64 1)) (@lenL S_debtqueue_item x2.2.2.1))
               (brn (bnot x2.1.2.2.2.2.2.2.1)
                (brn (bnot x2.1.2.2.2.2.2.2.2.1)
                 (brn (Ty.eqb (.cons (.int .u64) (.cons (.arr 4 (.int .u64)) (.cons (.arr 4 (.int .u64)) (.cons (.arr 4 (.int .u64)) (.cons (.arr 4 (.int .u64)) (.cons (.int .u64) .nil)))))) x2.2.2.2.2.2.1 Z_S_api_Poster)
                  (brn (Ty.eqb (.cons (.int .u64) (.cons (.arr 4 (.int .u64)) (.cons (.arr 4 (.int .u64)) (.cons (.arr 4 (.int .u64)) (.cons (.arr 4 (.int .u64)) (.cons (.int .u64) .nil)))))) x2.2.2.2.2.2.2.1 Z_S_api_Poster)
                   (brn (@I.eqb .i64 (I.ofNat .i64 (@lenL S_debtqueue_item (@subL S_debtqueue_item x2.2.2.1 0 (@I.nat .i64 (@I.sub .i64 (I.ofNat .i64 (@lenL S_debtqueue_item x2.2.2.1)) (I.of .i64 1)))))) (I.of .i64 0))
                    (brn (bnot x2.1.2.2.2.2.2.1)
                     (optF (none) (debtqueue_Order (([], ()), ())) fun y4 =>
                     brn (@I.eqb .i64 (I.ofNat .i64 (@lenL (I .u64) y4.1.1)) (I.of .i64 0))
                      (optF (none) (pontagelaw17_awake ((), ())) fun y5 =>
                      some ((y5.1.1, ()), ()))
                      (some ((false, ()), ())))
                     (some ((false, ()), ())))
                    (some ((false, ()), ())))
                   (some ((false, ()), ())))
                  (some ((false, ()), ())))
                 (some ((false, ()), ())))
                (some ((false, ()), ())))
               (none))
              (none)))
             (brn (@inB .i64 (@I.add .i64 (@I.mul .i64 (I.of .i64 2) x2.1.2.2.2.1) (I.of .i64 1)) (@lenL S_debtqueue_item x2.2.2.1))
              (brn (@inB .i64 x2.1.2.2.2.1 (@lenL S_debtqueue_item x2.2.2.1))
               (brn (@inB .i64 x2.1.2.2.2.1 (@lenL S_debtqueue_item x2.2.2.1))
                (brn (@inB .i64 (@I.add .i64 (@I.mul .i64 (I.of .i64 2) x2.1.2.2.2.1) (I.of .i64 1)) (@lenL S_debtqueue_item (@setL S_debtqueue_item x2.2.2.1 (@I.nat .i64 x2.1.2.2.2.1) (@rdL S_debtqueue_item Z_S_debtqueue_item x2.2.2.1 (@I.nat .i64 (@I.add .i64 (@I.mul .i64 (I.of .i64 2) x2.1.2.2.2.1) (I.of .i64 1)))))))
                 (.again (((), (x2.1.2.1, (x2.1.2.2.1, ((@I.add .i64 (@I.mul .i64 (I.of .i64 2) x2.1.2.2.2.1) (I.of .i64 1)), ((), (x2.1.2.2.2.2.2.1, (x2.1.2.2.2.2.2.2.1, (x2.1.2.2.2.2.2.2.2.1, ())))))))), (((), x2.2.1.2), ((@setL S_debtqueue_item (@setL S_debtqueue_item x2.2.2.1 (@I.nat .i64 x2.1.2.2.2.1) (@rdL S_debtqueue_item Z_S_debtqueue_item x2.2.2.1 (@I.nat .i64 (@I.add .i64 (@I.mul .i64 (I.of .i64 2) x2.1.2.2.2.1) (I.of .i64 1))))) (@I.nat .i64 (@I.add .i64 (@I.mul .i64 (I.of .i64 2) x2.1.2.2.2.1) (I.of .i64 1))) (@rdL S_debtqueue_item Z_S_debtqueue_item x2.2.2.1 (@I.nat .i64 x2.1.2.2.2.1))), (x2.2.2.2.1, (x2.2.2.2.2.1, (x2.2.2.2.2.2.1, (x2.2.2.2.2.2.2.1, ()))))))))
                 (.done (none)))
                (.done (none)))
               (.done (none)))
              (.done (none)))))))
       K0 (((), ((I.of .i64 0), ((@I.sub .i64 y1.1.1 (I.of .i64 1)), ((I.of .i64 0), ((), (true, (false, (false, ())))))))), (((), y0.2.1.2), ((@setL S_debtqueue_item (@setL S_debtqueue_item y0.2.2.1 0 (@rdL S_debtqueue_item Z_S_debtqueue_item y0.2.2.1 (@I.nat .i64 (@I.sub .i64 y1.1.1 (I.of .i64 1))))) (@I.nat .i64 (@I.sub .i64 y1.1.1 (I.of .i64 1))) (@rdL S_debtqueue_item Z_S_debtqueue_item y0.2.2.1 0)), (Z_S_api_Poster, ((@rdL S_debtqueue_item Z_S_debtqueue_item y0.2.2.1 0).1, (Z_S_api_Poster, (Z_S_api_Poster, ()))))))))
       (none))
      (none))
     (none))
    (none))
   (none))

/-- pontage/pontagelaw17.DebtqueuePermutation -/
noncomputable def pontagelaw17_DebtqueuePermutation (x : (⟨[.pl (.sl (.cons (.int .u64) (.cons (.arr 4 (.int .u64)) (.cons (.arr 4 (.int .u64)) (.cons (.arr 4 (.int .u64)) (.cons (.arr 4 (.int .u64)) (.cons (.int .u64) .nil)))))))], []⟩ : Tm).D) : Option (⟨[.pl .bool], []⟩ : Tm).D :=
 let a : (List S_api_Poster) := x.1.1
 brn (@I.ltb .i64 (I.of .i64 60) (I.ofNat .i64 (@lenL S_api_Poster a)))
  (optF (none) (pontagelaw17_awake ((), ())) fun y0 =>
  some ((y0.1.1, ()), ()))
  (iter (none) (fun x0 =>
    brn (@I.ltb .i64 x0.1.2.1 (I.ofNat .i64 (@lenL S_api_Poster x0.1.1)))
     (brn (@inB .i64 x0.1.2.1 (@lenL S_api_Poster x0.1.1))
      (brn (fitsLen (@lenL S_api_Poster (@appL S_api_Poster x0.2.1 (((I.conv (k := .i64) .u64 (@I.add .i64 x0.1.2.1 (I.of .i64 1))), ((@rdL S_api_Poster Z_S_api_Poster x0.1.1 (@I.nat .i64 x0.1.2.1)).2.1, ((@rdL S_api_Poster Z_S_api_Poster x0.1.1 (@I.nat .i64 x0.1.2.1)).2.2.1, ((@rdL S_api_Poster Z_S_api_Poster x0.1.1 (@I.nat .i64 x0.1.2.1)).2.2.2.1, ((@rdL S_api_Poster Z_S_api_Poster x0.1.1 (@I.nat .i64 x0.1.2.1)).2.2.2.2.1, ((@I.rem .u64 (@rdL S_api_Poster Z_S_api_Poster x0.1.1 (@I.nat .i64 x0.1.2.1)).2.2.2.2.2.1 (I.of .u64 5)), (@rdL S_api_Poster Z_S_api_Poster x0.1.1 (@I.nat .i64 x0.1.2.1)).2.2.2.2.2.2)))))) :: []))))
       (.again ((x0.1.1, ((@I.add .i64 x0.1.2.1 (I.of .i64 1)), ())), ((@appL S_api_Poster x0.2.1 (((I.conv (k := .i64) .u64 (@I.add .i64 x0.1.2.1 (I.of .i64 1))), ((@rdL S_api_Poster Z_S_api_Poster x0.1.1 (@I.nat .i64 x0.1.2.1)).2.1, ((@rdL S_api_Poster Z_S_api_Poster x0.1.1 (@I.nat .i64 x0.1.2.1)).2.2.1, ((@rdL S_api_Poster Z_S_api_Poster x0.1.1 (@I.nat .i64 x0.1.2.1)).2.2.2.1, ((@rdL S_api_Poster Z_S_api_Poster x0.1.1 (@I.nat .i64 x0.1.2.1)).2.2.2.2.1, ((@I.rem .u64 (@rdL S_api_Poster Z_S_api_Poster x0.1.1 (@I.nat .i64 x0.1.2.1)).2.2.2.2.2.1 (I.of .u64 5)), (@rdL S_api_Poster Z_S_api_Poster x0.1.1 (@I.nat .i64 x0.1.2.1)).2.2.2.2.2.2)))))) :: [])), (x0.2.2.1, ()))))
       (.done (none)))
      (.done (none)))
     (.done (iter (none) (fun x1 =>
       brn (@I.leb .i64 (I.of .i64 0) x1.1.1)
        (brn (@inB .i64 x1.1.1 (@lenL S_api_Poster x1.2.1))
         (brn (fitsLen (@lenL S_api_Poster (@appL S_api_Poster x1.2.2.1 ((@rdL S_api_Poster Z_S_api_Poster x1.2.1 (@I.nat .i64 x1.1.1)) :: []))))
          (.again (((@I.sub .i64 x1.1.1 (I.of .i64 1)), ()), (x1.2.1, ((@appL S_api_Poster x1.2.2.1 ((@rdL S_api_Poster Z_S_api_Poster x1.2.1 (@I.nat .i64 x1.1.1)) :: [])), ()))))
          (.done (none)))
         (.done (none)))
        (.done (optF (none) (debtqueue_Order ((x1.2.1, ()), ())) fun y2 =>
        optF (none) (debtqueue_Order ((x1.2.2.1, ()), ())) fun y3 =>
        optF (none) (pontagelaw0_EqualAddresses ((y2.1.1, (y3.1.1, ())), ())) fun y4 =>
        brn y4.1.1
         (optF (none) (pontagelaw17_awake ((), ())) fun y5 =>
         some ((y5.1.1, ()), ()))
         (some ((false, ()), ())))))
     K0 (((@I.sub .i64 (I.ofNat .i64 (@lenL S_api_Poster x0.2.1)) (I.of .i64 1)), ()), (x0.2.1, (x0.2.2.1, ()))))))
  K0 ((a, ((I.of .i64 0), ())), ([], ([], ()))))

end Sym
